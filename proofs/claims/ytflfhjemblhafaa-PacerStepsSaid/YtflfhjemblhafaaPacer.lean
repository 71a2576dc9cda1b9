/-
  THE WALKS of package pacer (layer 23).
-/
import Derived.Test.YtflfhjemblhafaaShare
import Derived.Handy
namespace Go.Proofs.Ytflfhjemblhafaa
open Go.RowKit

theorem sub_at (a b r : Int) (w : World) (ha : In a) (hb : In b) (h : Fx.sub a b = r) : Calls Try.prog 54 #[.int .i64 a, .int .i64 b] w fun e w' => e = .returned (.int .i64 r) ∧ w = w' := by
  have := sub_any a b w ha.1 ha.2 hb.1 hb.2
  rw [h] at this; exact this
theorem add_at (a b r : Int) (w : World) (ha : In a) (hb : In b) (h : Fx.add a b = r) : Calls Try.prog 53 #[.int .i64 a, .int .i64 b] w fun e w' => e = .returned (.int .i64 r) ∧ w = w' := by
  have := add_any a b w ha.1 ha.2 hb.1 hb.2
  rw [h] at this; exact this

theorem below_alloc {w w' : World} (h : Below w.heap.size w w') (o : Obj) : Below w.heap.size w (w'.alloc o) := h.alloc h.size o
theorem below_trans {a b c : World} (h : Below a.heap.size a b) (k : Below b.heap.size b c) : Below a.heap.size a c := h.trans (k.mono h.size)

namespace Pc
def work (s : Int) : Int := Fx.whole (Fx.add (max s 0) 64)
def room (t g : Int) : Int := Fx.whole (max (Fx.sub g t) 1)
def quo (s t g : Int) : Int := Fx.div (work s) (room t g)
def ratio (s t g : Int) : Int := cl 131072 67108864 (quo s t g)
def words (w : Int) : Int := cl 0 16777216 w
def goal0 (l p : Int) : Int := l + l * p / 100
def goal (l w p : Int) : Int := min (min (max (goal0 l p) (w / 4)) (w / 2 + l / 2)) w
def trig (l g : Int) : Int := min (l + max (g - l) 0 * 3 / 4) g
theorem ratio_range (s t g : Int) : 131072 ≤ ratio s t g ∧ ratio s t g ≤ 67108864 := cl_range _ (by omega)
end Pc

set_option maxHeartbeats 1000000 in
theorem bound_any (x : Int) (w : World) : Calls Try.prog 55 #[.int .i64 x] w fun e w' => e = .returned (.int .i64 (cl 131072 67108864 x)) ∧ w = w' := by
  rcases (by omega : x < 131072 ∨ (131072 ≤ x ∧ 67108864 < x) ∨ (131072 ≤ x ∧ x ≤ 67108864)) with h | ⟨h, h'⟩ | ⟨h, h'⟩
  all_goals
    go_enter Try.func55, Try.ntmps55
    go_wp2_with fail
    go_ret
    exact ⟨ret_int (by unfold cl; repeat' split <;> omega), rfl⟩

set_option maxHeartbeats 2000000 in
theorem ratio_any (s t g : Int) (w : World) (hs : In s) (ht : In t) (hg : In g) : Calls Try.prog 28 #[.int .i64 s, .int .i64 t, .int .i64 g] w fun e w' => e = .returned (.int .i64 (Pc.ratio s t g)) ∧ ∃ n, w' = w.drewN n := by
  have HS := Lib.hid hs
  have HT := Lib.hid ht
  have HG := Lib.hid hg
  clear hs ht hg
  go_enter Try.func28, Try.ntmps28
  go_wp2_with fail
  refine (add_at _ _ _ _ (in_mk (by have := HS.out.1; have := HS.out.2; omega) (by have := HS.out.1; have := HS.out.2; omega)) (in_mk (by omega) (by omega)) rfl).mono ?_; rintro e w' ⟨rfl, rfl⟩
  go_wp2_with fail
  refine (whole_at _ (Pc.work s) _ (in_sat _) rfl).mono ?_; rintro e w' ⟨rfl, rfl⟩
  go_wp2_with fail
  refine (sub_at _ _ _ _ HG.out HT.out rfl).mono ?_; rintro e w' ⟨rfl, rfl⟩
  go_wp2_with fail
  refine (whole_at _ (Pc.room t g) _ (in_mk (by omega) (by have := (in_sat (g - t)).2; have e : Fx.sub g t = Fx.sat (g - t) := rfl; omega)) rfl).mono ?_; rintro e w' ⟨rfl, rfl⟩
  go_wp2_with fail
  refine (div_at _ _ (Pc.quo s t g) _ (in_sat _) (in_sat _) rfl).mono ?_; rintro e w' ⟨rfl, k, rfl⟩
  go_wp2_with fail
  refine (bound_any _ _).mono ?_; rintro e w' ⟨rfl, rfl⟩
  go_wp2_with fail
  go_ret
  exact ⟨rfl, k, rfl⟩

theorem below_drewN {B : Nat} {w w' : World} (h : Below B w w') (n : Nat) : Below B w (w'.drewN n) := ⟨h.os, h.tape, h.output, h.size, h.block⟩

set_option maxHeartbeats 2000000 in
theorem goal_core (live a l n percent b p c M H G T : Int) (w : World) (e1 : max live 0 = a) (e2 : min a n = l) (e3 : max percent 0 = b) (e4 : min b 10000 = p) (e5 : max n 0 = n) (e6 : min n 16777216 = n)
    (h1 : Hid (l * p / 100 = c)) (h2 : max (l + c) (n / 4) = M) (h3 : n / 2 + l / 2 = H) (hG : (M ≤ H ∧ M = G) ∨ (H < M ∧ H = G)) (hT : min (l + max (G - l) 0 * 3 / 4) G = T)
    (l0 : 0 ≤ l) (l1 : l ≤ n) (n1 : n ≤ 16777216) (c0 : 0 ≤ c) (c1 : c ≤ 1677721600) (q0 : 0 ≤ l * p) (q1 : l * p ≤ 167772160000)
    (hH : H ≤ n) (hM : 0 ≤ M) (hM1 : M ≤ 2000000000) (H0 : 0 ≤ H) (T0 : 0 ≤ T) (T1 : T ≤ 16777216) :
    Calls Try.prog 27 #[.int .i64 live, .int .i64 n, .int .i64 percent, .bool true] w fun e w' => e = .returned (.agg #[.int .i64 T, .int .i64 G, .int .i64 (Pc.ratio l T G)]) ∧ Below w.heap.size w w' := by
  rcases hG with ⟨hG, rfl⟩ | ⟨hG, rfl⟩
  all_goals
    have H1 := h1.out
    clear h1
    go_enter Try.func27, Try.ntmps27
    go_wp2_with fail
    refine (ratio_any _ _ _ _ (in_mk (by omega) (by omega)) (in_mk (by omega) (by omega)) (in_mk (by omega) (by omega))).mono ?_; rintro e w' ⟨rfl, k, rfl⟩
    go_wp2_with fail
    refine bodyPost_ret (v := .agg #[.int .i64 _, .int .i64 _, .int .i64 _]) (by simp [results, Try.results27, go_sem]) rfl ⟨rfl, ?_⟩
    go_grown
    exact below_drewN ((Below.refl _ _).alloc (Nat.le_refl _) _) _

theorem Pc.trig_range {l g n : Int} (l0 : 0 ≤ l) (h : 0 ≤ g) (h1 : g ≤ n) : 0 ≤ Pc.trig l g ∧ Pc.trig l g ≤ n := by unfold Pc.trig; omega

theorem goal_any (live n percent l p t g r : Int) (w : World) (hl : Hid (min (max live 0) n = l)) (hp : Hid (min (max percent 0) 10000 = p)) (hg : Hid (Pc.goal l n p = g)) (ht : Hid (Pc.trig l g = t)) (hr : Hid (Pc.ratio l t g = r))
    (n0 : 0 ≤ n) (n1 : n ≤ 16777216) :
    Calls Try.prog 27 #[.int .i64 live, .int .i64 n, .int .i64 percent, .bool true] w fun e w' => e = .returned (.agg #[.int .i64 t, .int .i64 g, .int .i64 r]) ∧ Below w.heap.size w w' := by
  have hl := hl.out
  have hp := hp.out
  have l0 : 0 ≤ l := by omega
  have l1 : l ≤ n := by omega
  have p0 : 0 ≤ p := by omega
  have p1 : p ≤ 10000 := by omega
  have q0 : 0 ≤ l * p := Int.mul_nonneg l0 p0
  have q1 : l * p ≤ 16777216 * 10000 := Int.mul_le_mul (by omega) p1 p0 (by omega)
  have hg := hg.out
  have hgg : g = min (min (max (l + l * p / 100) (n / 4)) (n / 2 + l / 2)) n := by rw [← hg]; rfl
  have tr := Pc.trig_range (n := 16777216) l0 (show 0 ≤ g by omega) (by omega)
  have ht := ht.out
  have hr := hr.out
  rw [ht] at tr
  rw [← hr]
  refine goal_core live (max live 0) l n percent (max percent 0) p (l * p / 100) (max (l + l * p / 100) (n / 4)) (n / 2 + l / 2) g t w rfl hl rfl hp (by omega) (by omega) (Lib.hid rfl) rfl rfl ?_ ?_ l0 l1 n1 (by omega) (by omega) q0 (by omega) (by omega) (by omega) (by omega) (by omega) tr.1 tr.2
  · rcases Int.lt_or_le (n / 2 + l / 2) (max (l + l * p / 100) (n / 4)) with h | h
    · exact .inr ⟨h, by omega⟩
    · exact .inl ⟨h, by omega⟩
  · rw [← ht]; rfl

set_option maxHeartbeats 1000000 in
theorem goal_off (live n percent a l : Int) (w : World) (e1 : max live 0 = a) (e2 : min a n = l) (e5 : max n 0 = n) (e6 : min n 16777216 = n) :
    Calls Try.prog 27 #[.int .i64 live, .int .i64 n, .int .i64 percent, .bool false] w fun e w' => e = .returned (.agg #[.int .i64 n, .int .i64 n, .int .i64 0]) ∧ Below w.heap.size w w' := by
  go_enter Try.func27, Try.ntmps27
  go_wp2_with fail
  refine bodyPost_ret (v := .agg #[.int .i64 _, .int .i64 _, .int .i64 _]) (by simp [results, Try.results27, go_sem]) rfl ⟨rfl, ?_⟩
  go_grown

/-- Is a cycle to begin? -/
def Pc.begins (t r a : Int) : Bool := decide (t ≤ a ∧ 0 < r)

set_option maxHeartbeats 1000000 in
theorem begin_any (t g r a : Int) (b : Bool) (w : World) (h : Hid (Pc.begins t r a = b)) :
    Calls Try.prog 30 #[.agg #[.int .i64 t, .int .i64 g, .int .i64 r], .int .i64 a] w fun e w' => e = .returned (.bool b) ∧ w' = w.alloc (.cells #[.int .i64 t, .int .i64 g, .int .i64 r] 41) := by
  rcases (by omega : a < t ∨ (t ≤ a ∧ r ≤ 0) ∨ (t ≤ a ∧ 0 < r)) with h1 | ⟨h1, h2⟩ | ⟨h1, h2⟩
  · obtain rfl : b = false := by rw [← h.out]; exact decide_eq_false (by omega)
    go_enter Try.func30, Try.ntmps30
    go_wp2_with fail
    go_ret
    exact ⟨rfl, rfl⟩
  · obtain rfl : b = false := by rw [← h.out]; exact decide_eq_false (by omega)
    go_enter Try.func30, Try.ntmps30
    go_wp2_with fail
    go_ret
    exact ⟨ret_bool (by simp; omega), rfl⟩
  · obtain rfl : b = true := by rw [← h.out]; exact decide_eq_true ⟨h1, h2⟩
    go_enter Try.func30, Try.ntmps30
    go_wp2_with fail
    go_ret
    exact ⟨ret_bool (by first | (simp; done) | (simp; omega)), rfl⟩

theorem begin_bel (t g r a : Int) (b : Bool) (w : World) (h : Hid (Pc.begins t r a = b)) :
    Calls Try.prog 30 #[.agg #[.int .i64 t, .int .i64 g, .int .i64 r], .int .i64 a] w fun e w' => e = .returned (.bool b) ∧ Below w.heap.size w w' :=
  (begin_any t g r a b w h).mono fun _ _ ⟨h1, h2⟩ => ⟨h1, by rw [h2]; exact below_alloc (Below.refl _ _) _⟩
end Go.Proofs.Ytflfhjemblhafaa
