/-
  No cell of these rows narrows 'for every input' (looked for: loops, veiled, ifaces, maps, wideKeys, modest, calm, conditions, laid).
  DERIVED. THE GIVEN ROWS OF THIS SEAT. 13 by the template 'for every input the law returns true; each argument reads behind the call as it read before'; 0 by the template 'total and deterministic' (their statements: YtflfhjemblhafaaTotals.lean).
  GIVEN WITH THE SEED: the statements are not yours to turn. If you find one false, say at which input.
  Laid BY PROGRAM, IN A SANDBOX (cutbox-rows.mjs): the forced cells as the released guide's own fill.sh prints them over the translation f3fe951f340c2afa… (all of the seat's roots in one cut). By AI agents, Wed Nov 11 2026. No macro, syntax, notation, axiom, sorry.
-/
import Derived.Test.YtflfhjemblhafaaChecked
import GoSem.Claim
import GoSem.ClaimJoined
import GoSem.ClaimMapViews
import Derived.JoinedTies
import Derived.KernelRfl
namespace Go.Proofs.Ytflfhjemblhafaa
/- THE CELL 'sum', in the pinned program and in every row, IS THE sha256 OF THE DUMP (.gsa) THAT YtflfhjemblhafaaProg.lean LOADS. Nothing in Lean hashes anything: it is a label: what it is worth is what the hold of that sum in a sandbox is worth. -/
noncomputable def Try.pinned : Pinned := { name := "ytflfhjemblhafaa", sum := "f3fe951f340c2afa8f2c5f8203f0d9eac07138b96b4fcd252d2bd02e71409b2e", checked := Try.checked }
namespace Rows
def none {H : Type} : Left H := { results := [], args := [] }

/-- 'treadmilllaw24.ShareWorkers': WHATEVER THE INPUT: true; the input reads as it did. -/
def shareWorkersSpec : ChangeSpec := { name := "shareWorkers", fn := fun _ => fun
  | [d1, d2, d3, d4, d5] => { results := [.lit (.bool true)], args := [d1, d2, d3, d4, d5] }
  | _ => none }
def shareWorkersRow : OpenClaim := { program := "ytflfhjemblhafaa", sum := "f3fe951f340c2afa8f2c5f8203f0d9eac07138b96b4fcd252d2bd02e71409b2e", func := "treadmill/treadmilllaw24.ShareWorkers", spec := "shareWorkers", inPlace := ["math/bits.Add64"], unfollowed := true, recurses := true, named := ["math/bits.divideError", "math/bits.overflowError"], apart := false }
def ShareWorkersSaid : Prop := shareWorkersRow.holds Try.pinned (OpenSpec.ofChange shareWorkersSpec)

/-- ITS FALSE NEIGHBOUR: 'it returns false'. Refute it at one input. -/
def shareWorkersWrong : ChangeSpec := { name := "shareWorkers", fn := fun _ => fun
  | [d1, d2, d3, d4, d5] => { results := [.lit (.bool false)], args := [d1, d2, d3, d4, d5] }
  | _ => none }
def ShareWorkersWrongFalsely : Prop := shareWorkersRow.holds Try.pinned (OpenSpec.ofChange shareWorkersWrong)

/-- 'treadmilllaw24.ShareParts': WHATEVER THE INPUT: true; the input reads as it did. -/
def sharePartsSpec : ChangeSpec := { name := "shareParts", fn := fun _ => fun
  | [d1, d2] => { results := [.lit (.bool true)], args := [d1, d2] }
  | _ => none }
def sharePartsRow : OpenClaim := { program := "ytflfhjemblhafaa", sum := "f3fe951f340c2afa8f2c5f8203f0d9eac07138b96b4fcd252d2bd02e71409b2e", func := "treadmill/treadmilllaw24.ShareParts", spec := "shareParts", inPlace := ["math/bits.Add64"], unfollowed := true, recurses := true, named := ["math/bits.divideError", "math/bits.overflowError"], apart := false }
def SharePartsSaid : Prop := sharePartsRow.holds Try.pinned (OpenSpec.ofChange sharePartsSpec)

/-- ITS FALSE NEIGHBOUR: 'it returns false'. Refute it at one input. -/
def sharePartsWrong : ChangeSpec := { name := "shareParts", fn := fun _ => fun
  | [d1, d2] => { results := [.lit (.bool false)], args := [d1, d2] }
  | _ => none }
def SharePartsWrongFalsely : Prop := sharePartsRow.holds Try.pinned (OpenSpec.ofChange sharePartsWrong)

/-- 'treadmilllaw24.ShareKeeps': WHATEVER THE INPUT: true; the input reads as it did. -/
def shareKeepsSpec : ChangeSpec := { name := "shareKeeps", fn := fun _ => fun
  | [d1, d2] => { results := [.lit (.bool true)], args := [d1, d2] }
  | _ => none }
def shareKeepsRow : OpenClaim := { program := "ytflfhjemblhafaa", sum := "f3fe951f340c2afa8f2c5f8203f0d9eac07138b96b4fcd252d2bd02e71409b2e", func := "treadmill/treadmilllaw24.ShareKeeps", spec := "shareKeeps", inPlace := ["math/bits.Add64"], unfollowed := true, recurses := true, named := ["math/bits.divideError", "math/bits.overflowError"], apart := false }
def ShareKeepsSaid : Prop := shareKeepsRow.holds Try.pinned (OpenSpec.ofChange shareKeepsSpec)

/-- ITS FALSE NEIGHBOUR: 'it returns false'. Refute it at one input. -/
def shareKeepsWrong : ChangeSpec := { name := "shareKeeps", fn := fun _ => fun
  | [d1, d2] => { results := [.lit (.bool false)], args := [d1, d2] }
  | _ => none }
def ShareKeepsWrongFalsely : Prop := shareKeepsRow.holds Try.pinned (OpenSpec.ofChange shareKeepsWrong)

/-- 'treadmilllaw24.ShareDedicates': WHATEVER THE INPUT: true; the input reads as it did. -/
def shareDedicatesSpec : ChangeSpec := { name := "shareDedicates", fn := fun _ => fun
  | [d1, d2, d3] => { results := [.lit (.bool true)], args := [d1, d2, d3] }
  | _ => none }
def shareDedicatesRow : OpenClaim := { program := "ytflfhjemblhafaa", sum := "f3fe951f340c2afa8f2c5f8203f0d9eac07138b96b4fcd252d2bd02e71409b2e", func := "treadmill/treadmilllaw24.ShareDedicates", spec := "shareDedicates", inPlace := ["math/bits.Add64"], unfollowed := true, recurses := true, named := ["math/bits.divideError", "math/bits.overflowError"], apart := false }
def ShareDedicatesSaid : Prop := shareDedicatesRow.holds Try.pinned (OpenSpec.ofChange shareDedicatesSpec)

/-- ITS FALSE NEIGHBOUR: 'it returns false'. Refute it at one input. -/
def shareDedicatesWrong : ChangeSpec := { name := "shareDedicates", fn := fun _ => fun
  | [d1, d2, d3] => { results := [.lit (.bool false)], args := [d1, d2, d3] }
  | _ => none }
def ShareDedicatesWrongFalsely : Prop := shareDedicatesRow.holds Try.pinned (OpenSpec.ofChange shareDedicatesWrong)

/-- 'treadmilllaw26.SweepSteps': WHATEVER THE INPUT: true; the input reads as it did. -/
def sweepStepsSpec : ChangeSpec := { name := "sweepSteps", fn := fun _ => fun
  | [d1, d2, d3] => { results := [.lit (.bool true)], args := [d1, d2, d3] }
  | _ => none }
def sweepStepsRow : OpenClaim := { program := "ytflfhjemblhafaa", sum := "f3fe951f340c2afa8f2c5f8203f0d9eac07138b96b4fcd252d2bd02e71409b2e", func := "treadmill/treadmilllaw26.SweepSteps", spec := "sweepSteps", inPlace := ["math/bits.Add64"], unfollowed := true, recurses := true, named := ["math/bits.divideError", "math/bits.overflowError"], apart := false }
def SweepStepsSaid : Prop := sweepStepsRow.holds Try.pinned (OpenSpec.ofChange sweepStepsSpec)

/-- ITS FALSE NEIGHBOUR: 'it returns false'. Refute it at one input. -/
def sweepStepsWrong : ChangeSpec := { name := "sweepSteps", fn := fun _ => fun
  | [d1, d2, d3] => { results := [.lit (.bool false)], args := [d1, d2, d3] }
  | _ => none }
def SweepStepsWrongFalsely : Prop := sweepStepsRow.holds Try.pinned (OpenSpec.ofChange sweepStepsWrong)

/-- 'treadmilllaw26.SweepParts': WHATEVER THE INPUT: true; the input reads as it did. -/
def sweepPartsSpec : ChangeSpec := { name := "sweepParts", fn := fun _ => fun
  | [d1, d2, d3, d4, d5] => { results := [.lit (.bool true)], args := [d1, d2, d3, d4, d5] }
  | _ => none }
def sweepPartsRow : OpenClaim := { program := "ytflfhjemblhafaa", sum := "f3fe951f340c2afa8f2c5f8203f0d9eac07138b96b4fcd252d2bd02e71409b2e", func := "treadmill/treadmilllaw26.SweepParts", spec := "sweepParts", inPlace := ["math/bits.Add64"], unfollowed := true, recurses := true, named := ["math/bits.divideError", "math/bits.overflowError"], apart := false }
def SweepPartsSaid : Prop := sweepPartsRow.holds Try.pinned (OpenSpec.ofChange sweepPartsSpec)

/-- ITS FALSE NEIGHBOUR: 'it returns false'. Refute it at one input. -/
def sweepPartsWrong : ChangeSpec := { name := "sweepParts", fn := fun _ => fun
  | [d1, d2, d3, d4, d5] => { results := [.lit (.bool false)], args := [d1, d2, d3, d4, d5] }
  | _ => none }
def SweepPartsWrongFalsely : Prop := sweepPartsRow.holds Try.pinned (OpenSpec.ofChange sweepPartsWrong)

/-- 'treadmilllaw23.PacerSteps': WHATEVER THE INPUT: true; the input reads as it did. -/
def pacerStepsSpec : ChangeSpec := { name := "pacerSteps", fn := fun _ => fun
  | [d1, d2, d3] => { results := [.lit (.bool true)], args := [d1, d2, d3] }
  | _ => none }
def pacerStepsRow : OpenClaim := { program := "ytflfhjemblhafaa", sum := "f3fe951f340c2afa8f2c5f8203f0d9eac07138b96b4fcd252d2bd02e71409b2e", func := "treadmill/treadmilllaw23.PacerSteps", spec := "pacerSteps", inPlace := ["math/bits.Add64"], unfollowed := true, recurses := true, named := ["math/bits.divideError", "math/bits.overflowError"], apart := false }
def PacerStepsSaid : Prop := pacerStepsRow.holds Try.pinned (OpenSpec.ofChange pacerStepsSpec)

/-- ITS FALSE NEIGHBOUR: 'it returns false'. Refute it at one input. -/
def pacerStepsWrong : ChangeSpec := { name := "pacerSteps", fn := fun _ => fun
  | [d1, d2, d3] => { results := [.lit (.bool false)], args := [d1, d2, d3] }
  | _ => none }
def PacerStepsWrongFalsely : Prop := pacerStepsRow.holds Try.pinned (OpenSpec.ofChange pacerStepsWrong)

/-- 'treadmilllaw23.PacerOrder': WHATEVER THE INPUT: true; the input reads as it did. -/
def pacerOrderSpec : ChangeSpec := { name := "pacerOrder", fn := fun _ => fun
  | [d1, d2, d3, d4, d5, d6, d7] => { results := [.lit (.bool true)], args := [d1, d2, d3, d4, d5, d6, d7] }
  | _ => none }
def pacerOrderRow : OpenClaim := { program := "ytflfhjemblhafaa", sum := "f3fe951f340c2afa8f2c5f8203f0d9eac07138b96b4fcd252d2bd02e71409b2e", func := "treadmill/treadmilllaw23.PacerOrder", spec := "pacerOrder", inPlace := ["math/bits.Add64"], unfollowed := true, recurses := true, named := ["math/bits.divideError", "math/bits.overflowError"], apart := false }
def PacerOrderSaid : Prop := pacerOrderRow.holds Try.pinned (OpenSpec.ofChange pacerOrderSpec)

/-- ITS FALSE NEIGHBOUR: 'it returns false'. Refute it at one input. -/
def pacerOrderWrong : ChangeSpec := { name := "pacerOrder", fn := fun _ => fun
  | [d1, d2, d3, d4, d5, d6, d7] => { results := [.lit (.bool false)], args := [d1, d2, d3, d4, d5, d6, d7] }
  | _ => none }
def PacerOrderWrongFalsely : Prop := pacerOrderRow.holds Try.pinned (OpenSpec.ofChange pacerOrderWrong)

/-- 'treadmilllaw23.PacerEdges': WHATEVER THE INPUT: true; the input reads as it did. -/
def pacerEdgesSpec : ChangeSpec := { name := "pacerEdges", fn := fun _ => fun
  | [d] => { results := [.lit (.bool true)], args := [d] }
  | _ => none }
def pacerEdgesRow : OpenClaim := { program := "ytflfhjemblhafaa", sum := "f3fe951f340c2afa8f2c5f8203f0d9eac07138b96b4fcd252d2bd02e71409b2e", func := "treadmill/treadmilllaw23.PacerEdges", spec := "pacerEdges", inPlace := ["math/bits.Add64"], unfollowed := true, recurses := true, named := ["math/bits.divideError", "math/bits.overflowError"], apart := false }
def PacerEdgesSaid : Prop := pacerEdgesRow.holds Try.pinned (OpenSpec.ofChange pacerEdgesSpec)

/-- ITS FALSE NEIGHBOUR: 'it returns false'. Refute it at one input. -/
def pacerEdgesWrong : ChangeSpec := { name := "pacerEdges", fn := fun _ => fun
  | [d] => { results := [.lit (.bool false)], args := [d] }
  | _ => none }
def PacerEdgesWrongFalsely : Prop := pacerEdgesRow.holds Try.pinned (OpenSpec.ofChange pacerEdgesWrong)

/-- 'treadmilllaw23.PacerPays': WHATEVER THE INPUT: true; the input reads as it did. -/
def pacerPaysSpec : ChangeSpec := { name := "pacerPays", fn := fun _ => fun
  | [d1, d2] => { results := [.lit (.bool true)], args := [d1, d2] }
  | _ => none }
def pacerPaysRow : OpenClaim := { program := "ytflfhjemblhafaa", sum := "f3fe951f340c2afa8f2c5f8203f0d9eac07138b96b4fcd252d2bd02e71409b2e", func := "treadmill/treadmilllaw23.PacerPays", spec := "pacerPays", inPlace := ["math/bits.Add64"], unfollowed := true, recurses := true, named := ["math/bits.divideError", "math/bits.overflowError"], apart := false }
def PacerPaysSaid : Prop := pacerPaysRow.holds Try.pinned (OpenSpec.ofChange pacerPaysSpec)

/-- ITS FALSE NEIGHBOUR: 'it returns false'. Refute it at one input. -/
def pacerPaysWrong : ChangeSpec := { name := "pacerPays", fn := fun _ => fun
  | [d1, d2] => { results := [.lit (.bool false)], args := [d1, d2] }
  | _ => none }
def PacerPaysWrongFalsely : Prop := pacerPaysRow.holds Try.pinned (OpenSpec.ofChange pacerPaysWrong)

/-- 'treadmilllaw22.CreditBounds': WHATEVER THE INPUT: true; the input reads as it did. -/
def creditBoundsSpec : ChangeSpec := { name := "creditBounds", fn := fun _ => fun
  | [d1, d2] => { results := [.lit (.bool true)], args := [d1, d2] }
  | _ => none }
def creditBoundsRow : OpenClaim := { program := "ytflfhjemblhafaa", sum := "f3fe951f340c2afa8f2c5f8203f0d9eac07138b96b4fcd252d2bd02e71409b2e", func := "treadmill/treadmilllaw22.CreditBounds", spec := "creditBounds", inPlace := ["math/bits.Add64"], unfollowed := true, recurses := true, named := ["math/bits.divideError", "math/bits.overflowError"], apart := false }
def CreditBoundsSaid : Prop := creditBoundsRow.holds Try.pinned (OpenSpec.ofChange creditBoundsSpec)

/-- ITS FALSE NEIGHBOUR: 'it returns false'. Refute it at one input. -/
def creditBoundsWrong : ChangeSpec := { name := "creditBounds", fn := fun _ => fun
  | [d1, d2] => { results := [.lit (.bool false)], args := [d1, d2] }
  | _ => none }
def CreditBoundsWrongFalsely : Prop := creditBoundsRow.holds Try.pinned (OpenSpec.ofChange creditBoundsWrong)

/-- 'treadmilllaw22.CreditApart': WHATEVER THE INPUT: true; the input reads as it did. -/
def creditApartSpec : ChangeSpec := { name := "creditApart", fn := fun _ => fun
  | [d1, d2, d3] => { results := [.lit (.bool true)], args := [d1, d2, d3] }
  | _ => none }
def creditApartRow : OpenClaim := { program := "ytflfhjemblhafaa", sum := "f3fe951f340c2afa8f2c5f8203f0d9eac07138b96b4fcd252d2bd02e71409b2e", func := "treadmill/treadmilllaw22.CreditApart", spec := "creditApart", inPlace := ["math/bits.Add64"], unfollowed := true, recurses := true, named := ["math/bits.divideError", "math/bits.overflowError"], apart := false }
def CreditApartSaid : Prop := creditApartRow.holds Try.pinned (OpenSpec.ofChange creditApartSpec)

/-- ITS FALSE NEIGHBOUR: 'it returns false'. Refute it at one input. -/
def creditApartWrong : ChangeSpec := { name := "creditApart", fn := fun _ => fun
  | [d1, d2, d3] => { results := [.lit (.bool false)], args := [d1, d2, d3] }
  | _ => none }
def CreditApartWrongFalsely : Prop := creditApartRow.holds Try.pinned (OpenSpec.ofChange creditApartWrong)

/-- 'treadmilllaw22.CreditPays': WHATEVER THE INPUT: true; the input reads as it did. -/
def creditPaysSpec : ChangeSpec := { name := "creditPays", fn := fun _ => fun
  | [d1, d2] => { results := [.lit (.bool true)], args := [d1, d2] }
  | _ => none }
def creditPaysRow : OpenClaim := { program := "ytflfhjemblhafaa", sum := "f3fe951f340c2afa8f2c5f8203f0d9eac07138b96b4fcd252d2bd02e71409b2e", func := "treadmill/treadmilllaw22.CreditPays", spec := "creditPays", inPlace := ["math/bits.Add64"], unfollowed := true, recurses := true, named := ["math/bits.divideError", "math/bits.overflowError"], apart := false }
def CreditPaysSaid : Prop := creditPaysRow.holds Try.pinned (OpenSpec.ofChange creditPaysSpec)

/-- ITS FALSE NEIGHBOUR: 'it returns false'. Refute it at one input. -/
def creditPaysWrong : ChangeSpec := { name := "creditPays", fn := fun _ => fun
  | [d1, d2] => { results := [.lit (.bool false)], args := [d1, d2] }
  | _ => none }
def CreditPaysWrongFalsely : Prop := creditPaysRow.holds Try.pinned (OpenSpec.ofChange creditPaysWrong)

/- THE SECOND FORM. 'bulk': how many values and letters a reading holds, each counted each time it is reached (what is shared counts as often as it is met; a slice's spare places count too). A statement '..UptoSaid' is the law's where the arguments, and the package variables that the reading takes, are together of bulk at most 1048576: NARROWER than '..Said'. Prove '..Said' where nothing that the law and all that it calls make is longer than what came in: it says more and counts as full. Else prove '..UptoSaid'. A law counts once. -/
mutual
def uptoBulk {H : Type} : DataW H → Nat
  | .lit (.string bytes) => bytes.length + 1
  | .lit _ => 1
  | .nil => 1
  | .ptr d => uptoBulk d + 1
  | .slice elems spare => uptoBulkAll elems + uptoBulkAll spare + 1
  | .agg parts => uptoBulkAll parts + 1
  | .iface _ d => uptoBulk d + 1
  | .map entries => uptoBulkEntries entries + 1
  | .held _ => 1
def uptoBulkAll {H : Type} : List (DataW H) → Nat
  | [] => 0
  | d :: r => uptoBulk d + uptoBulkAll r
def uptoBulkEntries {H : Type} : List (Lit × DataW H) → Nat
  | [] => 0
  | x :: r => uptoBulkEntry x + uptoBulkEntries r
def uptoBulkEntry {H : Type} : Lit × DataW H → Nat
  | (.string bytes, d) => bytes.length + uptoBulk d + 1
  | (_, d) => uptoBulk d + 1
 end
def uptoSmall : (H : Type) → List (DataW H) → Bool := fun _ ds => decide (uptoBulkAll ds ≤ 1048576)
def OpenSpec.upto (s : _root_.Go.ChangeSpec) : _root_.Go.OpenSpec := { _root_.Go.OpenSpec.ofChange s with cond := some uptoSmall }

/-- 'treadmilllaw24.ShareWorkers', WHERE WHAT IT READS IS OF BULK AT MOST 1048576: true; the input reads as it did. -/
def shareWorkersUptoRow : OpenClaim := { program := "ytflfhjemblhafaa", sum := "f3fe951f340c2afa8f2c5f8203f0d9eac07138b96b4fcd252d2bd02e71409b2e", func := "treadmill/treadmilllaw24.ShareWorkers", spec := "shareWorkers", inPlace := ["math/bits.Add64"], unfollowed := true, recurses := true, named := ["math/bits.divideError", "math/bits.overflowError"], apart := false, narrowed := true }
def ShareWorkersUptoSaid : Prop := shareWorkersUptoRow.holds Try.pinned (OpenSpec.upto shareWorkersSpec)

/-- 'treadmilllaw24.ShareParts', WHERE WHAT IT READS IS OF BULK AT MOST 1048576: true; the input reads as it did. -/
def sharePartsUptoRow : OpenClaim := { program := "ytflfhjemblhafaa", sum := "f3fe951f340c2afa8f2c5f8203f0d9eac07138b96b4fcd252d2bd02e71409b2e", func := "treadmill/treadmilllaw24.ShareParts", spec := "shareParts", inPlace := ["math/bits.Add64"], unfollowed := true, recurses := true, named := ["math/bits.divideError", "math/bits.overflowError"], apart := false, narrowed := true }
def SharePartsUptoSaid : Prop := sharePartsUptoRow.holds Try.pinned (OpenSpec.upto sharePartsSpec)

/-- 'treadmilllaw24.ShareKeeps', WHERE WHAT IT READS IS OF BULK AT MOST 1048576: true; the input reads as it did. -/
def shareKeepsUptoRow : OpenClaim := { program := "ytflfhjemblhafaa", sum := "f3fe951f340c2afa8f2c5f8203f0d9eac07138b96b4fcd252d2bd02e71409b2e", func := "treadmill/treadmilllaw24.ShareKeeps", spec := "shareKeeps", inPlace := ["math/bits.Add64"], unfollowed := true, recurses := true, named := ["math/bits.divideError", "math/bits.overflowError"], apart := false, narrowed := true }
def ShareKeepsUptoSaid : Prop := shareKeepsUptoRow.holds Try.pinned (OpenSpec.upto shareKeepsSpec)

/-- 'treadmilllaw24.ShareDedicates', WHERE WHAT IT READS IS OF BULK AT MOST 1048576: true; the input reads as it did. -/
def shareDedicatesUptoRow : OpenClaim := { program := "ytflfhjemblhafaa", sum := "f3fe951f340c2afa8f2c5f8203f0d9eac07138b96b4fcd252d2bd02e71409b2e", func := "treadmill/treadmilllaw24.ShareDedicates", spec := "shareDedicates", inPlace := ["math/bits.Add64"], unfollowed := true, recurses := true, named := ["math/bits.divideError", "math/bits.overflowError"], apart := false, narrowed := true }
def ShareDedicatesUptoSaid : Prop := shareDedicatesUptoRow.holds Try.pinned (OpenSpec.upto shareDedicatesSpec)

/-- 'treadmilllaw26.SweepSteps', WHERE WHAT IT READS IS OF BULK AT MOST 1048576: true; the input reads as it did. -/
def sweepStepsUptoRow : OpenClaim := { program := "ytflfhjemblhafaa", sum := "f3fe951f340c2afa8f2c5f8203f0d9eac07138b96b4fcd252d2bd02e71409b2e", func := "treadmill/treadmilllaw26.SweepSteps", spec := "sweepSteps", inPlace := ["math/bits.Add64"], unfollowed := true, recurses := true, named := ["math/bits.divideError", "math/bits.overflowError"], apart := false, narrowed := true }
def SweepStepsUptoSaid : Prop := sweepStepsUptoRow.holds Try.pinned (OpenSpec.upto sweepStepsSpec)

/-- 'treadmilllaw26.SweepParts', WHERE WHAT IT READS IS OF BULK AT MOST 1048576: true; the input reads as it did. -/
def sweepPartsUptoRow : OpenClaim := { program := "ytflfhjemblhafaa", sum := "f3fe951f340c2afa8f2c5f8203f0d9eac07138b96b4fcd252d2bd02e71409b2e", func := "treadmill/treadmilllaw26.SweepParts", spec := "sweepParts", inPlace := ["math/bits.Add64"], unfollowed := true, recurses := true, named := ["math/bits.divideError", "math/bits.overflowError"], apart := false, narrowed := true }
def SweepPartsUptoSaid : Prop := sweepPartsUptoRow.holds Try.pinned (OpenSpec.upto sweepPartsSpec)

/-- 'treadmilllaw23.PacerSteps', WHERE WHAT IT READS IS OF BULK AT MOST 1048576: true; the input reads as it did. -/
def pacerStepsUptoRow : OpenClaim := { program := "ytflfhjemblhafaa", sum := "f3fe951f340c2afa8f2c5f8203f0d9eac07138b96b4fcd252d2bd02e71409b2e", func := "treadmill/treadmilllaw23.PacerSteps", spec := "pacerSteps", inPlace := ["math/bits.Add64"], unfollowed := true, recurses := true, named := ["math/bits.divideError", "math/bits.overflowError"], apart := false, narrowed := true }
def PacerStepsUptoSaid : Prop := pacerStepsUptoRow.holds Try.pinned (OpenSpec.upto pacerStepsSpec)

/-- 'treadmilllaw23.PacerOrder', WHERE WHAT IT READS IS OF BULK AT MOST 1048576: true; the input reads as it did. -/
def pacerOrderUptoRow : OpenClaim := { program := "ytflfhjemblhafaa", sum := "f3fe951f340c2afa8f2c5f8203f0d9eac07138b96b4fcd252d2bd02e71409b2e", func := "treadmill/treadmilllaw23.PacerOrder", spec := "pacerOrder", inPlace := ["math/bits.Add64"], unfollowed := true, recurses := true, named := ["math/bits.divideError", "math/bits.overflowError"], apart := false, narrowed := true }
def PacerOrderUptoSaid : Prop := pacerOrderUptoRow.holds Try.pinned (OpenSpec.upto pacerOrderSpec)

/-- 'treadmilllaw23.PacerEdges', WHERE WHAT IT READS IS OF BULK AT MOST 1048576: true; the input reads as it did. -/
def pacerEdgesUptoRow : OpenClaim := { program := "ytflfhjemblhafaa", sum := "f3fe951f340c2afa8f2c5f8203f0d9eac07138b96b4fcd252d2bd02e71409b2e", func := "treadmill/treadmilllaw23.PacerEdges", spec := "pacerEdges", inPlace := ["math/bits.Add64"], unfollowed := true, recurses := true, named := ["math/bits.divideError", "math/bits.overflowError"], apart := false, narrowed := true }
def PacerEdgesUptoSaid : Prop := pacerEdgesUptoRow.holds Try.pinned (OpenSpec.upto pacerEdgesSpec)

/-- 'treadmilllaw23.PacerPays', WHERE WHAT IT READS IS OF BULK AT MOST 1048576: true; the input reads as it did. -/
def pacerPaysUptoRow : OpenClaim := { program := "ytflfhjemblhafaa", sum := "f3fe951f340c2afa8f2c5f8203f0d9eac07138b96b4fcd252d2bd02e71409b2e", func := "treadmill/treadmilllaw23.PacerPays", spec := "pacerPays", inPlace := ["math/bits.Add64"], unfollowed := true, recurses := true, named := ["math/bits.divideError", "math/bits.overflowError"], apart := false, narrowed := true }
def PacerPaysUptoSaid : Prop := pacerPaysUptoRow.holds Try.pinned (OpenSpec.upto pacerPaysSpec)

/-- 'treadmilllaw22.CreditBounds', WHERE WHAT IT READS IS OF BULK AT MOST 1048576: true; the input reads as it did. -/
def creditBoundsUptoRow : OpenClaim := { program := "ytflfhjemblhafaa", sum := "f3fe951f340c2afa8f2c5f8203f0d9eac07138b96b4fcd252d2bd02e71409b2e", func := "treadmill/treadmilllaw22.CreditBounds", spec := "creditBounds", inPlace := ["math/bits.Add64"], unfollowed := true, recurses := true, named := ["math/bits.divideError", "math/bits.overflowError"], apart := false, narrowed := true }
def CreditBoundsUptoSaid : Prop := creditBoundsUptoRow.holds Try.pinned (OpenSpec.upto creditBoundsSpec)

/-- 'treadmilllaw22.CreditApart', WHERE WHAT IT READS IS OF BULK AT MOST 1048576: true; the input reads as it did. -/
def creditApartUptoRow : OpenClaim := { program := "ytflfhjemblhafaa", sum := "f3fe951f340c2afa8f2c5f8203f0d9eac07138b96b4fcd252d2bd02e71409b2e", func := "treadmill/treadmilllaw22.CreditApart", spec := "creditApart", inPlace := ["math/bits.Add64"], unfollowed := true, recurses := true, named := ["math/bits.divideError", "math/bits.overflowError"], apart := false, narrowed := true }
def CreditApartUptoSaid : Prop := creditApartUptoRow.holds Try.pinned (OpenSpec.upto creditApartSpec)

/-- 'treadmilllaw22.CreditPays', WHERE WHAT IT READS IS OF BULK AT MOST 1048576: true; the input reads as it did. -/
def creditPaysUptoRow : OpenClaim := { program := "ytflfhjemblhafaa", sum := "f3fe951f340c2afa8f2c5f8203f0d9eac07138b96b4fcd252d2bd02e71409b2e", func := "treadmill/treadmilllaw22.CreditPays", spec := "creditPays", inPlace := ["math/bits.Add64"], unfollowed := true, recurses := true, named := ["math/bits.divideError", "math/bits.overflowError"], apart := false, narrowed := true }
def CreditPaysUptoSaid : Prop := creditPaysUptoRow.holds Try.pinned (OpenSpec.upto creditPaysSpec)

end Rows
end Go.Proofs.Ytflfhjemblhafaa
