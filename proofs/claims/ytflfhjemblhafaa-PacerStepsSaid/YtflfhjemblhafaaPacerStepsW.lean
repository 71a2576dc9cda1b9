/-
  THE WALK of treadmilllaw23.PacerSteps: behind each cycle goals stay between a quarter of the heap and all of it; with nothing alive they come back to the quarter.
-/
import Derived.Test.YtflfhjemblhafaaPacer2
import Derived.IntWalk
import Derived.Deep.QuietTactic
import Derived.BigQuiet
import Derived.Deep.RegionHeld3
namespace Go.Proofs.Ytflfhjemblhafaa
open Go.RowKit

/-- A number as an unsigned one, modulo another. -/
theorem utmod (a m : Int) (hm : 0 < m) : ∃ x, (IntKind.u64.wrap a).tmod m = x ∧ 0 ≤ x ∧ x < m := by
  refine ⟨_, rfl, ?_, ?_⟩
  · rw [u64_wrap, Int.tmod_eq_emod_of_nonneg (by omega)]; exact Int.emod_nonneg _ (by omega)
  · rw [u64_wrap, Int.tmod_eq_emod_of_nonneg (by omega)]; exact Int.emod_lt_of_pos _ hm

/-- What Goal answers, as one fact. -/
structure GoalAt (live n percent t g r : Int) : Prop where
  l : ∃ l p, min (max live 0) n = l ∧ min (max percent 0) 10000 = p ∧ Pc.goal l n p = g ∧ Pc.trig l g = t ∧ Pc.ratio l t g = r

theorem goal_at (live n percent t g r : Int) (w : World) (n0 : 0 ≤ n) (n1 : n ≤ 16777216) (H : GoalAt live n percent t g r) :
    Calls Try.prog 27 #[.int .i64 live, .int .i64 n, .int .i64 percent, .bool true] w fun e w' => e = .returned (.agg #[.int .i64 t, .int .i64 g, .int .i64 r]) ∧ Below w.heap.size w w' := by
  obtain ⟨l, p, h1, h2, h3, h4, h5⟩ := H.l
  exact goal_any live n percent l p t g r w (Lib.hid h1) (Lib.hid h2) (Lib.hid h3) (Lib.hid h4) (Lib.hid h5) n0 n1

theorem goal_made {l n p : Int} (l0 : 0 ≤ l) (l1 : l ≤ n) (p0 : 0 ≤ p) (p1 : p ≤ 10000) : GoalAt l n p (Pc.trig l (Pc.goal l n p)) (Pc.goal l n p) (Pc.ratio l (Pc.trig l (Pc.goal l n p)) (Pc.goal l n p)) :=
  ⟨l, p, by omega, by omega, rfl, rfl, rfl⟩

theorem three_cells (u : World) (B : Nat) (a b c x y z : Value) (h0 : u.cell? ⟨B, 0, none⟩ = some x) (h1 : u.cell? ⟨B, 1, none⟩ = some y) (h2 : u.cell? ⟨B, 2, none⟩ = some z) :
    (((u.setCell ⟨B, 0, none⟩ a).setCell ⟨B, 1, none⟩ b).setCell ⟨B, 2, none⟩ c).cell? ⟨B, 0, none⟩ = some a ∧ (((u.setCell ⟨B, 0, none⟩ a).setCell ⟨B, 1, none⟩ b).setCell ⟨B, 2, none⟩ c).cell? ⟨B, 1, none⟩ = some b ∧
    (((u.setCell ⟨B, 0, none⟩ a).setCell ⟨B, 1, none⟩ b).setCell ⟨B, 2, none⟩ c).cell? ⟨B, 2, none⟩ = some c := by
  refine ⟨?_, ?_, ?_⟩ <;> simp [go_sem, *]
theorem three_frozen (u : World) (B : Nat) (a b c : Value) (p : Addr) :
    (((u.setCell ⟨B, 0, none⟩ a).setCell ⟨B, 1, none⟩ b).setCell ⟨B, 2, none⟩ c).frozen? p = u.frozen? p := by
  simp

theorem ratio_at (s t g r : Int) (w : World) (hs : In s) (ht : In t) (hg : In g) (h : Hid (Pc.ratio s t g = r)) : Calls Try.prog 28 #[.int .i64 s, .int .i64 t, .int .i64 g] w fun e w' => e = .returned (.int .i64 r) ∧ ∃ n, w' = w.drewN n := by
  have := ratio_any s t g w hs ht hg
  rw [h.out] at this
  exact this

theorem ratio_bel (s t g r : Int) (w : World) (hs : In s) (ht : In t) (hg : In g) (h : Hid (Pc.ratio s t g = r)) : Calls Try.prog 28 #[.int .i64 s, .int .i64 t, .int .i64 g] w fun e w' => e = .returned (.int .i64 r) ∧ Below w.heap.size w w' :=
  (ratio_at s t g r w hs ht hg h).mono fun _ _ ⟨h1, k, h2⟩ => ⟨h1, by rw [h2]; exact below_drewN (Below.refl _ _) k⟩

theorem steps_keep {t q r : Int} {K : Nat} {w0 w w' : World} (b : Below w.heap.size w w') (h : Below w0.heap.size w0 w ∧ w.cell? ⟨K, 0, none⟩ = some (.int .i64 t) ∧ w.cell? ⟨K, 1, none⟩ = some (.int .i64 q) ∧ w.cell? ⟨K, 2, none⟩ = some (.int .i64 r)) : Below w0.heap.size w0 w' ∧ w'.cell? ⟨K, 0, none⟩ = some (.int .i64 t) ∧ w'.cell? ⟨K, 1, none⟩ = some (.int .i64 q) ∧ w'.cell? ⟨K, 2, none⟩ = some (.int .i64 r) :=
  let ⟨h0, h1, h2, h3⟩ := h
  ⟨below_trans h0 b, cell_in b h1, cell_in b h2, cell_in b h3⟩

set_option maxRecDepth 100000 in
set_option maxHeartbeats 4000000 in
theorem pacerSteps_core (a1 a2 v n p q t r : Int) (s : Option Addr) (len cap : Nat) (z : Nat → Int) (w : World) (hv : (IntKind.u64.wrap a1).tmod 1048576 = v) (v0 : 0 ≤ v) (v1 : v ≤ 1048575) (hn : 256 + v = n)
    (hp : (IntKind.u64.wrap a2).tmod 10001 = p) (p0 : 0 ≤ p) (p1 : p ≤ 10000) (q0 : 0 ≤ q) (qn : q ≤ n) (H : Hid (GoalAt 0 n p t q r)) (hq : Hid (n / 4 = q)) (ht : Hid (q * 3 / 4 = t)) (HR0 : Hid (Pc.ratio 0 t q = r)) (HR1 : Hid (Pc.ratio 0 0 64 = 1048576)) (HR2 : Hid (Pc.ratio (-5) 10 5 = 67108864)) (t0 : 0 ≤ t) (t1 : t ≤ n)
    (hs : Hid ((s = none ∧ len = 0) ∨ ∃ x, s = some x ∧ len ≤ cap ∧ ∀ i, i < len → w.cell? (x.add i) = some (.int .i64 (z i)))) :
    Calls Try.prog 9 #[.int .i64 a1, .int .i64 a2, .slice s len cap] w fun e w' => e = .returned (.bool true) ∧ Below w.heap.size w w' := by
  go_enter Try.func9, Try.ntmps9
  go_wp2_with fail
  refine (goal_at _ _ _ _ _ _ _ (by omega) (by omega) H.out).mono ?_; rintro e w1 ⟨rfl, b1⟩
  go_wp2_with fail
  have hb0 : Below w.heap.size w (w1.alloc (.cells #[.int .i64 t, .int .i64 q, .int .i64 r] 41)) := below_alloc b1 _
  go_loopw [10] (fun i wr => ∃ k : Nat, ∃ tg gg rg : Int, k ≤ 20 ∧ i = .int .i64 k ∧ 0 ≤ gg ∧ gg ≤ n ∧ Below w.heap.size w wr ∧ w1.heap.size < wr.heap.size ∧ wr.cell? ⟨w1.heap.size, 0, none⟩ = some (.int .i64 tg) ∧ wr.cell? ⟨w1.heap.size, 1, none⟩ = some (.int .i64 gg) ∧ wr.cell? ⟨w1.heap.size, 2, none⟩ = some (.int .i64 rg) ∧ wr.frozen? ⟨w1.heap.size, 0, none⟩ = false ∧ wr.frozen? ⟨w1.heap.size, 1, none⟩ = false ∧ wr.frozen? ⟨w1.heap.size, 2, none⟩ = false) (fun i _ => (20 - intOf i).toNat)
  case atStart => exact ⟨0, t, q, r, by omega, rfl, q0, qn, hb0, by simp, by simp, by simp, by simp, by simp, by simp, by simp⟩
  case round =>
    obtain ⟨k, tg, gg, rg, hk, rfl, g0, g1, bw, hz, c0, c1, c2, f0, f1, f2⟩ := hrel
    have hz0 := b1.size
    by_cases hlt : k < len ∧ k < 20
    · obtain ⟨hkl, hk2⟩ := hlt
      obtain ⟨x, rfl, hlc, hx⟩ : ∃ x, s = some x ∧ len ≤ cap ∧ ∀ i, i < len → w.cell? (x.add i) = some (.int .i64 (z i)) := by
        rcases hs.out with ⟨_, h⟩ | h
        · omega
        · exact h
      have cx := cell_in bw (hx k hkl)
      have hk3 : (k : Int) < 20 := by omega
      have hk0 : (0 : Int) ≤ k := by omega
      have hkl' : (k : Int) < len := by omega
      have BW := Lib.hid bw
      have HX := Lib.hid hx
      clear bw hx hb0 b1 hs
      go_wp2_with fail
      obtain ⟨y, hy, y0, y1⟩ := utmod (z k) 101 (by omega)
      have m0 : 0 ≤ gg * y := Int.mul_nonneg g0 y0
      have m1 : gg * y ≤ gg * 100 := Int.mul_le_mul_of_nonneg_left (by omega) g0
      obtain ⟨M, hM⟩ : ∃ M, gg * y = M := ⟨_, rfl⟩
      rw [hM] at m0 m1
      obtain ⟨L, hL⟩ : ∃ L, M / 100 = L := ⟨_, rfl⟩
      have L0 : 0 ≤ L := by omega
      have L1 : L ≤ n := by omega
      have w1y : IntKind.i64.wrap y = y := IntWalk.i64_in _ (by omega)
      have w2y : IntKind.i64.wrap M = M := IntWalk.i64_in _ (by omega)
      have w3y : IntKind.i64.wrap (M.tdiv 100) = L := by rw [Int.tdiv_eq_ediv_of_nonneg (by omega), hL, IntWalk.i64_in _ (by omega)]
      have GA := Lib.hid (goal_made L0 L1 p0 p1)
      have GR := Pc.ratio_range L (Pc.trig L (Pc.goal L n p)) (Pc.goal L n p)
      obtain ⟨G, hG⟩ : ∃ G, Pc.goal L n p = G := ⟨_, rfl⟩
      obtain ⟨T, hT⟩ : ∃ T, Pc.trig L G = T := ⟨_, rfl⟩
      obtain ⟨R, hR⟩ : ∃ R, Pc.ratio L T G = R := ⟨_, rfl⟩
      rw [hG, hT, hR] at GA
      have gl : 0 ≤ G ∧ G ≤ n ∧ min (n / 4) (n / 2 + L / 2) ≤ G ∧ min L G ≤ T ∧ T ≤ G ∧ 0 ≤ T := by
        have : 0 ≤ L * p := Int.mul_nonneg L0 p0
        have e1 : G = min (min (max (L + L * p / 100) (n / 4)) (n / 2 + L / 2)) n := by rw [← hG]; rfl
        have e2 : T = min (L + max (G - L) 0 * 3 / 4) G := by rw [← hT]; rfl
        omega
      have HR := Lib.hid hR
      obtain ⟨G0, G1, G2, G3, G4, T0⟩ := gl
      clear hG hT hR GR
      go_quiet (fail)
      go_wp2_with fail
      refine (goal_at _ _ _ _ _ _ _ (by omega) (by omega) GA.out).mono ?_; rintro e w2 ⟨rfl, b2⟩
      have b2' := below_trans (below_drewN (Below.refl _ wr) nq) b2
      have hz2 : w1.heap.size < w2.heap.size := Nat.lt_of_lt_of_le hz b2'.size
      have d0 := cell_in b2' c0
      have d1 := cell_in b2' c1
      have d2 := cell_in b2' c2
      have e0 : w2.frozen? ⟨w1.heap.size, 0, none⟩ = false := by rw [b2'.frozen (p := ⟨w1.heap.size, 0, none⟩) hz]; exact f0
      have e1 : w2.frozen? ⟨w1.heap.size, 1, none⟩ = false := by rw [b2'.frozen (p := ⟨w1.heap.size, 1, none⟩) hz]; exact f1
      have e2 : w2.frozen? ⟨w1.heap.size, 2, none⟩ = false := by rw [b2'.frozen (p := ⟨w1.heap.size, 2, none⟩) hz]; exact f2
      have BW2 := Lib.hid (below_trans BW.out b2')
      obtain ⟨N4, u1⟩ : ∃ x, n / 4 = x := ⟨_, rfl⟩
      obtain ⟨N2, u2⟩ : ∃ x, n / 2 = x := ⟨_, rfl⟩
      obtain ⟨L2, u3⟩ : ∃ x, L / 2 = x := ⟨_, rfl⟩
      obtain ⟨S, u4⟩ : ∃ x, N2 + L2 = x := ⟨_, rfl⟩
      rw [u1, u2, u3, u4] at G2
      obtain ⟨m, u5⟩ : ∃ x, min N4 S = x := ⟨_, rfl⟩
      obtain ⟨m', u6⟩ : ∃ x, min L G = x := ⟨_, rfl⟩
      rw [u5] at G2
      rw [u6] at G3
      have x1 : IntKind.i64.wrap (n.tdiv 4) = N4 := by rw [Int.tdiv_eq_ediv_of_nonneg (by omega), u1, IntWalk.i64_in _ (by omega)]
      have x2 : IntKind.i64.wrap (n.tdiv 2) = N2 := by rw [Int.tdiv_eq_ediv_of_nonneg (by omega), u2, IntWalk.i64_in _ (by omega)]
      have x3 : IntKind.i64.wrap (L.tdiv 2) = L2 := by rw [Int.tdiv_eq_ediv_of_nonneg (by omega), u3, IntWalk.i64_in _ (by omega)]
      have x4 : IntKind.i64.wrap (N2 + L2) = S := by rw [u4, IntWalk.i64_in _ (by omega)]
      have x5 : wrap64 S = S := by simp [wrap64]; omega
      have t1 : decide (G < m) = false := decide_eq_false (by omega)
      have t2 : decide (n < G) = false := decide_eq_false (by omega)
      have t3 : decide (T < m') = false := decide_eq_false (by omega)
      have I1 := in_mk (a := L) (by omega) (by omega)
      have I2 := in_mk (a := T) (by omega) (by omega)
      have I3 := in_mk (a := G) (by omega) (by omega)
      clear c0 c1 c2 f0 f1 f2 b2 b2' u1 u2 u3 hM hL w1y w2y w3y hy
      go_wp2_with fail
      go_quiet ((go_at_call 28; exact Calls.quiet_of (ratio_at _ _ _ _ _ I1 I2 I3 HR)))
      clear x1 x2 x3 x4 x5 t1 t2 t3 u4 u5 u6 I1 I2 I3
      go_wp2_with fail
      go_roundw
      case rel =>
        have bb : Below w2.heap.size w2 ((w2.alloc (.cells #[.int .i64 T, .int .i64 G, .int .i64 R] 41)).drewN nq) := below_drewN (below_alloc (Below.refl _ _) _) _
        have hs : w1.heap.size < ((w2.alloc (.cells #[.int .i64 T, .int .i64 G, .int .i64 R] 41)).drewN nq).heap.size := Nat.lt_of_lt_of_le hz2 bb.size
        have tc := three_cells _ w1.heap.size (.int .i64 T) (.int .i64 G) (.int .i64 R) _ _ _ (cell_in bb d0) (cell_in bb d1) (cell_in bb d2)
        have ff : ∀ j, ((w2.alloc (.cells #[.int .i64 T, .int .i64 G, .int .i64 R] 41)).drewN nq).frozen? ⟨w1.heap.size, j, none⟩ = w2.frozen? ⟨w1.heap.size, j, none⟩ := fun j => bb.frozen (p := ⟨w1.heap.size, j, none⟩) hz2
        exact ⟨k + 1, T, G, R, by omega, by go_num, G0, G1, (((below_drewN (below_alloc BW2.out _) _).setCell hz0 _).setCell hz0 _).setCell hz0 _, by simp only [World.size_setCell]; exact hs, tc.1, tc.2.1, tc.2.2, by rw [three_frozen, ff, e0], by rw [three_frozen, ff, e1], by rw [three_frozen, ff, e2]⟩
      case measure => simp [intOf]; omega
    · have BW := Lib.hid bw
      clear bw c0 c1 c2 f0 f1 f2 hs hb0 b1
      by_cases hkl : k < len
      all_goals
        have hk2 : ¬ ((k : Int) < 20) ∨ ¬ (k < len) := by omega
        go_wp2_with fail
        refine (goal_at _ _ _ _ _ _ _ (by omega) (by omega) H.out).mono ?_; rintro e w3 ⟨rfl, b3⟩
        have HS : Hid (Below w.heap.size w (w3.alloc (.cells #[.int .i64 t, .int .i64 q, .int .i64 r] 41)) ∧ (w3.alloc (.cells #[.int .i64 t, .int .i64 q, .int .i64 r] 41)).cell? ⟨w3.heap.size, 0, none⟩ = some (.int .i64 t) ∧ (w3.alloc (.cells #[.int .i64 t, .int .i64 q, .int .i64 r] 41)).cell? ⟨w3.heap.size, 1, none⟩ = some (.int .i64 q) ∧ (w3.alloc (.cells #[.int .i64 t, .int .i64 q, .int .i64 r] 41)).cell? ⟨w3.heap.size, 2, none⟩ = some (.int .i64 r)) :=
          Lib.hid ⟨below_alloc (below_trans BW.out b3) _, World.cell?_alloc_new .., World.cell?_alloc_new .., World.cell?_alloc_new ..⟩
        clear b3
        go_wp2_with fail
        have J0 : In 0 := in_mk (by omega) (by omega)
        have J1 : In t := in_mk (by omega) (by omega)
        have J2 : In q := in_mk (by omega) (by omega)
        have J3 : In 64 := in_mk (by omega) (by omega)
        have J4 : In (-5) := in_mk (by omega) (by omega)
        have J5 : In 10 := in_mk (by omega) (by omega)
        have J6 : In 5 := in_mk (by omega) (by omega)
        have g1 : IntKind.i64.wrap (n.tdiv 4) = q := by rw [Int.tdiv_eq_ediv_of_nonneg (by omega), hq.out, IntWalk.i64_in _ (by omega)]
        have g2 : IntKind.i64.wrap (q * 3) = q * 3 := IntWalk.i64_in _ (by omega)
        have g3 : IntKind.i64.wrap ((q * 3).tdiv 4) = t := by rw [Int.tdiv_eq_ediv_of_nonneg (by omega), ht.out, IntWalk.i64_in _ (by omega)]
        go_region_held3 (fun x => Below w.heap.size w x ∧ x.cell? ⟨w3.heap.size, 0, none⟩ = some (.int .i64 t) ∧ x.cell? ⟨w3.heap.size, 1, none⟩ = some (.int .i64 q) ∧ x.cell? ⟨w3.heap.size, 2, none⟩ = some (.int .i64 r)) (first | exact ⟨HS.out.1.drew, HS.out.2⟩ | exact steps_keep (by assumption) (by assumption))
          (first
          | (go_at_call 29; (with_reducible refine (told23_any _).mono ?_); rintro e w7 ⟨rfl, b7⟩)
          | (go_at_call 28; (with_reducible refine (ratio_bel _ _ _ _ _ J0 J1 J2 HR0).mono ?_); rintro e w9 ⟨rfl, b9⟩)
          | (go_at_call 28; (with_reducible refine (ratio_bel _ _ _ _ _ J0 J0 J3 HR1).mono ?_); rintro e w9 ⟨rfl, b9⟩)
          | (go_at_call 28; (with_reducible refine (ratio_bel _ _ _ _ _ J4 J5 J6 HR2).mono ?_); rintro e w9 ⟨rfl, b9⟩))
        all_goals
          rename_i hh
          obtain ⟨hh, -⟩ := hh
          have HH := Lib.hid hh
          clear hh HS
          go_wp2_with fail
          go_ret
          exact ⟨ret_bool (by first | rfl | simp), HH.out⟩

theorem pacerSteps_walk (a1 a2 : Int) (s : Option Addr) (len cap : Nat) (z : Nat → Int) (w : World)
    (hs : (s = none ∧ len = 0) ∨ ∃ x, s = some x ∧ len ≤ cap ∧ ∀ i, i < len → w.cell? (x.add i) = some (.int .i64 (z i))) :
    Calls Try.prog 9 #[.int .i64 a1, .int .i64 a2, .slice s len cap] w fun e w' => e = .returned (.bool true) ∧ Below w.heap.size w w' := by
  obtain ⟨v, hv, v0, v1⟩ := utmod a1 1048576 (by omega)
  obtain ⟨p, hp, p0, p1⟩ := utmod a2 10001 (by omega)
  obtain ⟨n, hn⟩ : ∃ n, 256 + v = n := ⟨_, rfl⟩
  have e1 : Pc.goal 0 n p = n / 4 := by unfold Pc.goal Pc.goal0; omega
  have e2 : Pc.trig 0 (n / 4) = n / 4 * 3 / 4 := by unfold Pc.trig; omega
  have H := goal_made (l := 0) (n := n) (p := p) (by omega) (by omega) p0 (by omega)
  rw [e1, e2] at H
  exact pacerSteps_core a1 a2 v n p (n / 4) (n / 4 * 3 / 4) _ s len cap z w hv v0 (by omega) hn hp p0 (by omega) (by omega) (by omega) (Lib.hid H) (Lib.hid rfl) (Lib.hid rfl) (Lib.hid rfl) (Lib.hid (by decide +kernel)) (Lib.hid (by decide +kernel)) (by omega) (by omega) (Lib.hid hs)
end Go.Proofs.Ytflfhjemblhafaa
