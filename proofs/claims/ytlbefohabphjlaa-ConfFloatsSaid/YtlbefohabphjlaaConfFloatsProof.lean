/-
  For any two configurations the statement treadmilllaw2.ConfFloats comes to true: conf's answers are the reference's. Conditions: none.
-/
import Derived.Test.YtlbefohabphjlaaConfFloatsW
import Derived.ProofKit
import Derived.OpenShut
import Derived.Lib.SmallJoins
import Derived.ChangeSame
namespace Go.Proofs.Ytlbefohabphjlaa.confFloats
open Go.Joins Go.Deep Go.ChangeShapes Go.WideShapes Go.ChangeAt Go.RowKit
set_option linter.unusedVariables false

section
variable {H : Type} {enc : TypeId × Value → H} {P : Program} {w : World} {base : Nat} {spare : Nat → Bool} {held : Bool}
theorem trod_float {t : TypeId} {k : FloatKind} {fuel : Nat} {v : Value} {x : DataW H × List MemPlace} (ht : P.underlying t = some (.float k)) (h : DataW.trod enc P w base spare held fuel t [v] = some x) :
    ∃ b, [v] = [.float k b] ∧ x = (.lit (.float k b), []) ∧ (Lit.float k b).wf = true := by
  cases fuel with
  | zero => simp [DataW.trod] at h
  | succ n =>
    unfold DataW.trod at h
    rw [ht] at h
    cases v <;> simp at h
    obtain ⟨⟨rfl, hw⟩, rfl⟩ := h
    exact ⟨_, rfl, rfl, hw⟩
theorem trod_float_mk {t : TypeId} {k : FloatKind} {b : Nat} (ht : P.underlying t = some (.float k)) (hw : (Lit.float k b).wf = true) : DataW.trod enc P w base spare held 1 t [.float k b] = some (.lit (.float k b), []) := by
  simp [DataW.trod, ht, hw]
end

theorem own : ownKnob Try.prog.godebug = none := by kernel_rfl

theorem wf_i64 {a : Int} (h : (Lit.int .i64 a).wf = true) : -9223372036854775808 ≤ a ∧ a ≤ 9223372036854775807 := by
  simpa [Lit.wf, IntKind.min, IntKind.max, IntKind.signed, IntKind.bits] using h

set_option maxRecDepth 100000 in
theorem lifted (os : Os) (started : os.Started) (H : Type) (enc : TypeId × Value → H) :
    ReturnsInHanded {} Try.checked os 15 .any (Rows.confFloatsSpec.pre6 enc Try.prog Try.f15 Rows.confFloatsRow.domain false) (Rows.confFloatsSpec.post enc Try.prog Try.f15 false true false false) := by
  refine returnsInHanded_of_change (C := Try.checked) own started (by kernel_rfl) Try.func15
    (ChangeSpec.witness6 (enc := enc) (C := Try.checked) false ⟨#[], #[.agg #[.int .i64 0, .int .i64 0, .float .f64 0, .float .f64 0], .agg #[.int .i64 0, .int .i64 0, .float .f64 0, .float .f64 0]], []⟩ 8 (by kernel_rfl) (by kernel_rfl) (by kernel_rfl) (by kernel_rfl)) ?_
  intro W base args ds gs before hval0 hW hcnd _
  have hval : ∀ (j : Nat) t v, Try.f15.params[j]? = some t → args[j]? = some v → Value.okWide Try.prog W .any base t v := hval0
  have hW' := hW
  obtain ⟨p, q, hA0, hV, rfl, hfz, hnd⟩ := hW
  have hA : DataW.TrodAll enc Try.prog W 0 (fun _ => true) true Try.f15.params.toList args.toList ds p := hA0
  rw [Try.params15] at hA hval
  obtain ⟨v0, vs0, d0, ds0, p0, q0, hargs, rfl, rfl, h0, r0⟩ := trodAll_cons hA
  obtain ⟨v1, vs1, d1, ds1, p1, q1, rfl, rfl, rfl, h1, r1⟩ := trodAll_cons r0
  obtain ⟨rfl, rfl, rfl⟩ := trodAll_nil r1
  obtain rfl : args = #[v0, v1] := by cases args; simp_all
  obtain ⟨rfl, rfl⟩ := trodVars_none hV
  obtain ⟨x00, x01, x02, x03, y00, y01, y02, y03, n0, rfl, rfl, rfl, t00, t01, t02, t03⟩ := open_agg4 Try.underlying39 (by kernel_rfl) (by kernel_rfl) (hval 0 39 v0 rfl rfl) h0
  obtain ⟨p0a, e00, rfl, u00⟩ := DataW.trod_int Try.underlying3 t00
  obtain ⟨p0b, e01, rfl, u01⟩ := DataW.trod_int Try.underlying3 t01
  obtain ⟨p0c, e02, rfl, u02⟩ := trod_float Try.underlying28 t02
  obtain ⟨p0d, e03, rfl, u03⟩ := trod_float Try.underlying28 t03
  simp only [List.cons.injEq, and_true] at e00 e01 e02 e03
  subst e00 e01 e02 e03
  obtain ⟨x10, x11, x12, x13, y10, y11, y12, y13, n1, rfl, rfl, rfl, t10, t11, t12, t13⟩ := open_agg4 Try.underlying39 (by kernel_rfl) (by kernel_rfl) (hval 1 39 v1 rfl rfl) h1
  obtain ⟨p1a, e10, rfl, u10⟩ := DataW.trod_int Try.underlying3 t10
  obtain ⟨p1b, e11, rfl, u11⟩ := DataW.trod_int Try.underlying3 t11
  obtain ⟨p1c, e12, rfl, u12⟩ := trod_float Try.underlying28 t12
  obtain ⟨p1d, e13, rfl, u13⟩ := trod_float Try.underlying28 t13
  simp only [List.cons.injEq, and_true] at e10 e11 e12 e13
  subst e10 e11 e12 e13
  clear hA0 hval0
  simp only [List.append_nil] at hW'
  refine (confFloats_walk p0a p0b p1a p1b p0c p0d p1c p1d W).mono fun e W' ⟨he, hg⟩ => ?_
  subst he
  exact ⟨_, rfl, post_of_same (pa := []) (pv := []) hW' (fun _ _ _ => (trodAll_cons_mk (shut_bool Try.underlying4 _) trodAll_mk0)) (fun sp _ => (trodAll_cons_mk (shut_agg4 Try.underlying39 (by kernel_rfl) (by kernel_rfl) ⟨1, trod_int_mk 0 Try.underlying3 u00⟩ ⟨1, trod_int_mk 0 Try.underlying3 u01⟩ ⟨1, trod_float_mk Try.underlying28 u02⟩ ⟨1, trod_float_mk Try.underlying28 u03⟩) (trodAll_cons_mk (shut_agg4 Try.underlying39 (by kernel_rfl) (by kernel_rfl) ⟨1, trod_int_mk 0 Try.underlying3 u10⟩ ⟨1, trod_int_mk 0 Try.underlying3 u11⟩ ⟨1, trod_float_mk Try.underlying28 u12⟩ ⟨1, trod_float_mk Try.underlying28 u13⟩) trodAll_mk0))) (fun _ _ => rfl) rfl
    (hg.frame _) hg.2.1 (ok_one (by kernel_rfl) rfl (okWide_bool_mk Try.underlying4 _))⟩

theorem over : Rows.confFloatsRow.holds Try.pinned (OpenSpec.ofChange Rows.confFloatsSpec) :=
  OpenClaim.holds_of_wide 15 Try.f15 rfl rfl rfl rfl rfl rfl rfl ⟨rfl, rfl, rfl, rfl, rfl⟩ rfl rfl rfl rfl rfl (by kernel_rfl) Try.func15 (by kernel_rfl)
    (of_decide_eq_true (by kernel_rfl)) (by unfold Func.isWrapper; first | (rw [if_pos (by decide +kernel)]; kernel_rfl) | (rw [if_neg (by decide +kernel)]; exact ⟨rfl, rfl⟩))
    (fun os started H enc _ => lifted os started H enc)

/-- The statement. -/
theorem proved : Rows.ConfFloatsSaid :=
  over
#print axioms proved
end Go.Proofs.Ytlbefohabphjlaa.confFloats
