/-
  THE WALK of conf.Same.
-/
import Derived.Test.YtlbefohabphjlaaRefConf
import Derived.Lib.Hide
import Derived.Handy
import Derived.Deep.QuietTactic
import Derived.BigQuiet
namespace Go.Proofs.Ytlbefohabphjlaa
open Go.RowKit

theorem quiet_is {f : FuncId} {args : Array Value} {w : World} {n : Nat} {v : Value}
    (h : Calls Try.prog f args (w.drewN n) fun e w' => e = .returned v ∧ w.drewN n = w') : Calls Try.prog f args (w.drewN n) fun e w'' => e = .returned v ∧ ∃ m, w'' = w.drewN m :=
  h.mono fun _ _ ⟨he, hm⟩ => ⟨he, n, hm.symm⟩

/-- What stands of two configurations. -/
structure SameAt (f1 g1 f2 g2 : Nat) (a1 a2 q1 q2 : Int) (b1 b2 : Bool) : Prop where
  x1 : Flt.pct f1 = (a1, b1)
  x2 : Flt.pct f2 = (a2, b2)
  y1 : Flt.prt g1 = q1
  y2 : Flt.prt g2 = q2

set_option maxHeartbeats 2000000 in
theorem same_core (p1 w1 p2 w2 : Int) (f1 g1 f2 g2 : Nat) (a1 a2 q1 q2 : Int) (b1 b2 : Bool) (t1 t2 t3 t4 t5 t : Bool) (w : World) (H : Hid (SameAt f1 g1 f2 g2 a1 a2 q1 q2 b1 b2))
    (e1 : (p1 == p2) = t1) (e2 : (w1 == w2) = t2) (e3 : (a1 == a2) = t3) (e4 : (b1 == b2) = t4) (e5 : (q1 == q2) = t5)
    (ht : (t1 = false ∧ t = false) ∨ (t1 = true ∧ t2 = false ∧ t = false) ∨ (t1 = true ∧ t2 = true ∧ t3 = false ∧ t = false) ∨ (t1 = true ∧ t2 = true ∧ t3 = true ∧ t4 = false ∧ t = false) ∨ (t1 = true ∧ t2 = true ∧ t3 = true ∧ t4 = true ∧ t5 = t)) :
    Calls Try.prog 40 #[.agg #[.int .i64 p1, .int .i64 w1, .float .f64 f1, .float .f64 g1], .agg #[.int .i64 p2, .int .i64 w2, .float .f64 f2, .float .f64 g2]] w fun e w' => e = .returned (.bool t) ∧ Grown w w' := by
  have HP1 := Lib.hid (part_at g1 q1 H.out.y1)
  have HP2 := Lib.hid (part_at g2 q2 H.out.y2)
  have HC1 := Lib.hid (percent_at f1 a1 b1 H.out.x1)
  have HC2 := Lib.hid (percent_at f2 a2 b2 H.out.x2)
  clear H
  rcases ht with ⟨rfl, rfl⟩ | ⟨rfl, rfl, rfl⟩ | ⟨rfl, rfl, rfl, rfl⟩ | ⟨rfl, rfl, rfl, rfl, rfl⟩ | ⟨rfl, rfl, rfl, rfl, rfl⟩
  all_goals
    go_enter Try.func40, Try.ntmps40
    go_wp2_with fail
    refine (HC1.out _).mono ?_; rintro e w' ⟨rfl, rfl⟩
    go_wp2_with fail
    refine (HC2.out _).mono ?_; rintro e w' ⟨rfl, rfl⟩
    go_wp2_with fail
    go_quiet ((first
      | (go_at_call 34; with_reducible exact quiet_is (HP1.out _))
      | (go_at_call 34; with_reducible exact quiet_is (HP2.out _))))
    go_wp2_with fail
    go_ret
    exact ⟨ret_bool (by first | rfl | assumption), grown_drewN (((Grown.refl _).alloc _ _).alloc _ _) _⟩
end Go.Proofs.Ytlbefohabphjlaa
