/-
  No cell of these rows narrows 'for every input' (looked for: loops, veiled, ifaces, maps, wideKeys, modest, calm, conditions, laid).
  DERIVED. THE GIVEN ROWS OF THIS SEAT. 10 by the template 'for every input the law returns true; each argument reads behind the call as it read before'; 0 by the template 'total and deterministic' (their statements: YtlikdmeickbigaaTotals.lean).
  GIVEN WITH THE SEED: the statements are not yours to turn. If you find one false, say at which input.
  Laid BY PROGRAM, IN A SANDBOX (cutbox-rows.mjs): the forced cells as the released guide's own fill.sh prints them over the translation dff8740ee573d630… (all of the seat's roots in one cut). By AI agents, Wed Nov 11 2026. No macro, syntax, notation, axiom, sorry.
-/
import Derived.Test.YtlikdmeickbigaaChecked
import GoSem.Claim
import GoSem.ClaimJoined
import GoSem.ClaimMapViews
import Derived.JoinedTies
import Derived.KernelRfl
namespace Go.Proofs.Ytlikdmeickbigaa
/- THE CELL 'sum', in the pinned program and in every row, IS THE sha256 OF THE DUMP (.gsa) THAT YtlikdmeickbigaaProg.lean LOADS. Nothing in Lean hashes anything: it is a label: what it is worth is what the hold of that sum in a sandbox is worth. -/
noncomputable def Try.pinned : Pinned := { name := "ytlikdmeickbigaa", sum := "dff8740ee573d630e45c61836e97f8e70bd8730628cbb93df03a2e8c8ae0d504", checked := Try.checked }
namespace Rows
def none {H : Type} : Left H := { results := [], args := [] }

/-- 'damperlaw10.ScaleDecides': WHATEVER THE INPUT: true; the input reads as it did. -/
def scaleDecidesSpec : ChangeSpec := { name := "scaleDecides", fn := fun _ => fun
  | [d1, d2, d3, d4] => { results := [.lit (.bool true)], args := [d1, d2, d3, d4] }
  | _ => none }
def scaleDecidesRow : OpenClaim := { program := "ytlikdmeickbigaa", sum := "dff8740ee573d630e45c61836e97f8e70bd8730628cbb93df03a2e8c8ae0d504", func := "damper/damperlaw10.ScaleDecides", spec := "scaleDecides", apart := false }
def ScaleDecidesSaid : Prop := scaleDecidesRow.holds Try.pinned (OpenSpec.ofChange scaleDecidesSpec)

/-- ITS FALSE NEIGHBOUR: 'it returns false'. Refute it at one input. -/
def scaleDecidesWrong : ChangeSpec := { name := "scaleDecides", fn := fun _ => fun
  | [d1, d2, d3, d4] => { results := [.lit (.bool false)], args := [d1, d2, d3, d4] }
  | _ => none }
def ScaleDecidesWrongFalsely : Prop := scaleDecidesRow.holds Try.pinned (OpenSpec.ofChange scaleDecidesWrong)

/-- 'damperlaw10.ScaleBounds': WHATEVER THE INPUT: true; the input reads as it did. -/
def scaleBoundsSpec : ChangeSpec := { name := "scaleBounds", fn := fun _ => fun
  | [d1, d2] => { results := [.lit (.bool true)], args := [d1, d2] }
  | _ => none }
def scaleBoundsRow : OpenClaim := { program := "ytlikdmeickbigaa", sum := "dff8740ee573d630e45c61836e97f8e70bd8730628cbb93df03a2e8c8ae0d504", func := "damper/damperlaw10.ScaleBounds", spec := "scaleBounds", apart := false }
def ScaleBoundsSaid : Prop := scaleBoundsRow.holds Try.pinned (OpenSpec.ofChange scaleBoundsSpec)

/-- ITS FALSE NEIGHBOUR: 'it returns false'. Refute it at one input. -/
def scaleBoundsWrong : ChangeSpec := { name := "scaleBounds", fn := fun _ => fun
  | [d1, d2] => { results := [.lit (.bool false)], args := [d1, d2] }
  | _ => none }
def ScaleBoundsWrongFalsely : Prop := scaleBoundsRow.holds Try.pinned (OpenSpec.ofChange scaleBoundsWrong)

/-- 'damperlaw10.ScaleZero': WHATEVER THE INPUT: true; the input reads as it did. -/
def scaleZeroSpec : ChangeSpec := { name := "scaleZero", fn := fun _ => fun
  | [d1, d2] => { results := [.lit (.bool true)], args := [d1, d2] }
  | _ => none }
def scaleZeroRow : OpenClaim := { program := "ytlikdmeickbigaa", sum := "dff8740ee573d630e45c61836e97f8e70bd8730628cbb93df03a2e8c8ae0d504", func := "damper/damperlaw10.ScaleZero", spec := "scaleZero", apart := false }
def ScaleZeroSaid : Prop := scaleZeroRow.holds Try.pinned (OpenSpec.ofChange scaleZeroSpec)

/-- ITS FALSE NEIGHBOUR: 'it returns false'. Refute it at one input. -/
def scaleZeroWrong : ChangeSpec := { name := "scaleZero", fn := fun _ => fun
  | [d1, d2] => { results := [.lit (.bool false)], args := [d1, d2] }
  | _ => none }
def ScaleZeroWrongFalsely : Prop := scaleZeroRow.holds Try.pinned (OpenSpec.ofChange scaleZeroWrong)

/-- 'damperlaw10.ScalePanic': WHATEVER THE INPUT: true; the input reads as it did. -/
def scalePanicSpec : ChangeSpec := { name := "scalePanic", fn := fun _ => fun
  | [d1, d2, d3] => { results := [.lit (.bool true)], args := [d1, d2, d3] }
  | _ => none }
def scalePanicRow : OpenClaim := { program := "ytlikdmeickbigaa", sum := "dff8740ee573d630e45c61836e97f8e70bd8730628cbb93df03a2e8c8ae0d504", func := "damper/damperlaw10.ScalePanic", spec := "scalePanic", apart := false }
def ScalePanicSaid : Prop := scalePanicRow.holds Try.pinned (OpenSpec.ofChange scalePanicSpec)

/-- ITS FALSE NEIGHBOUR: 'it returns false'. Refute it at one input. -/
def scalePanicWrong : ChangeSpec := { name := "scalePanic", fn := fun _ => fun
  | [d1, d2, d3] => { results := [.lit (.bool false)], args := [d1, d2, d3] }
  | _ => none }
def ScalePanicWrongFalsely : Prop := scalePanicRow.holds Try.pinned (OpenSpec.ofChange scalePanicWrong)

/-- 'damperlaw10.ScaleMore': WHATEVER THE INPUT: true; the input reads as it did. -/
def scaleMoreSpec : ChangeSpec := { name := "scaleMore", fn := fun _ => fun
  | [d1, d2, d3] => { results := [.lit (.bool true)], args := [d1, d2, d3] }
  | _ => none }
def scaleMoreRow : OpenClaim := { program := "ytlikdmeickbigaa", sum := "dff8740ee573d630e45c61836e97f8e70bd8730628cbb93df03a2e8c8ae0d504", func := "damper/damperlaw10.ScaleMore", spec := "scaleMore", apart := false }
def ScaleMoreSaid : Prop := scaleMoreRow.holds Try.pinned (OpenSpec.ofChange scaleMoreSpec)

/-- ITS FALSE NEIGHBOUR: 'it returns false'. Refute it at one input. -/
def scaleMoreWrong : ChangeSpec := { name := "scaleMore", fn := fun _ => fun
  | [d1, d2, d3] => { results := [.lit (.bool false)], args := [d1, d2, d3] }
  | _ => none }
def ScaleMoreWrongFalsely : Prop := scaleMoreRow.holds Try.pinned (OpenSpec.ofChange scaleMoreWrong)

/-- 'damperlaw10.ScaleKnown': WHATEVER THE INPUT: true; the input reads as it did. -/
def scaleKnownSpec : ChangeSpec := { name := "scaleKnown", fn := fun _ => fun
  | [d] => { results := [.lit (.bool true)], args := [d] }
  | _ => none }
def scaleKnownRow : OpenClaim := { program := "ytlikdmeickbigaa", sum := "dff8740ee573d630e45c61836e97f8e70bd8730628cbb93df03a2e8c8ae0d504", func := "damper/damperlaw10.ScaleKnown", spec := "scaleKnown", apart := false }
def ScaleKnownSaid : Prop := scaleKnownRow.holds Try.pinned (OpenSpec.ofChange scaleKnownSpec)

/-- ITS FALSE NEIGHBOUR: 'it returns false'. Refute it at one input. -/
def scaleKnownWrong : ChangeSpec := { name := "scaleKnown", fn := fun _ => fun
  | [d] => { results := [.lit (.bool false)], args := [d] }
  | _ => none }
def ScaleKnownWrongFalsely : Prop := scaleKnownRow.holds Try.pinned (OpenSpec.ofChange scaleKnownWrong)

/-- 'damperlaw10.ScaleAgain': WHATEVER THE INPUT: true; the input reads as it did. -/
def scaleAgainSpec : ChangeSpec := { name := "scaleAgain", fn := fun _ => fun
  | [d1, d2, d3] => { results := [.lit (.bool true)], args := [d1, d2, d3] }
  | _ => none }
def scaleAgainRow : OpenClaim := { program := "ytlikdmeickbigaa", sum := "dff8740ee573d630e45c61836e97f8e70bd8730628cbb93df03a2e8c8ae0d504", func := "damper/damperlaw10.ScaleAgain", spec := "scaleAgain", apart := false }
def ScaleAgainSaid : Prop := scaleAgainRow.holds Try.pinned (OpenSpec.ofChange scaleAgainSpec)

/-- ITS FALSE NEIGHBOUR: 'it returns false'. Refute it at one input. -/
def scaleAgainWrong : ChangeSpec := { name := "scaleAgain", fn := fun _ => fun
  | [d1, d2, d3] => { results := [.lit (.bool false)], args := [d1, d2, d3] }
  | _ => none }
def ScaleAgainWrongFalsely : Prop := scaleAgainRow.holds Try.pinned (OpenSpec.ofChange scaleAgainWrong)

/-- 'damperlaw10.ScaleDown': WHATEVER THE INPUT: true; the input reads as it did. -/
def scaleDownSpec : ChangeSpec := { name := "scaleDown", fn := fun _ => fun
  | [d1, d2] => { results := [.lit (.bool true)], args := [d1, d2] }
  | _ => none }
def scaleDownRow : OpenClaim := { program := "ytlikdmeickbigaa", sum := "dff8740ee573d630e45c61836e97f8e70bd8730628cbb93df03a2e8c8ae0d504", func := "damper/damperlaw10.ScaleDown", spec := "scaleDown", apart := false }
def ScaleDownSaid : Prop := scaleDownRow.holds Try.pinned (OpenSpec.ofChange scaleDownSpec)

/-- ITS FALSE NEIGHBOUR: 'it returns false'. Refute it at one input. -/
def scaleDownWrong : ChangeSpec := { name := "scaleDown", fn := fun _ => fun
  | [d1, d2] => { results := [.lit (.bool false)], args := [d1, d2] }
  | _ => none }
def ScaleDownWrongFalsely : Prop := scaleDownRow.holds Try.pinned (OpenSpec.ofChange scaleDownWrong)

/-- 'damperlaw10.ScaleNone': WHATEVER THE INPUT: true; the input reads as it did. -/
def scaleNoneSpec : ChangeSpec := { name := "scaleNone", fn := fun _ => fun
  | [d1, d2, d3, d4, d5] => { results := [.lit (.bool true)], args := [d1, d2, d3, d4, d5] }
  | _ => none }
def scaleNoneRow : OpenClaim := { program := "ytlikdmeickbigaa", sum := "dff8740ee573d630e45c61836e97f8e70bd8730628cbb93df03a2e8c8ae0d504", func := "damper/damperlaw10.ScaleNone", spec := "scaleNone", apart := false }
def ScaleNoneSaid : Prop := scaleNoneRow.holds Try.pinned (OpenSpec.ofChange scaleNoneSpec)

/-- ITS FALSE NEIGHBOUR: 'it returns false'. Refute it at one input. -/
def scaleNoneWrong : ChangeSpec := { name := "scaleNone", fn := fun _ => fun
  | [d1, d2, d3, d4, d5] => { results := [.lit (.bool false)], args := [d1, d2, d3, d4, d5] }
  | _ => none }
def ScaleNoneWrongFalsely : Prop := scaleNoneRow.holds Try.pinned (OpenSpec.ofChange scaleNoneWrong)

/-- 'damperlaw10.ScaleAbove': WHATEVER THE INPUT: true; the input reads as it did. -/
def scaleAboveSpec : ChangeSpec := { name := "scaleAbove", fn := fun _ => fun
  | [d1, d2, d3] => { results := [.lit (.bool true)], args := [d1, d2, d3] }
  | _ => none }
def scaleAboveRow : OpenClaim := { program := "ytlikdmeickbigaa", sum := "dff8740ee573d630e45c61836e97f8e70bd8730628cbb93df03a2e8c8ae0d504", func := "damper/damperlaw10.ScaleAbove", spec := "scaleAbove", apart := false }
def ScaleAboveSaid : Prop := scaleAboveRow.holds Try.pinned (OpenSpec.ofChange scaleAboveSpec)

/-- ITS FALSE NEIGHBOUR: 'it returns false'. Refute it at one input. -/
def scaleAboveWrong : ChangeSpec := { name := "scaleAbove", fn := fun _ => fun
  | [d1, d2, d3] => { results := [.lit (.bool false)], args := [d1, d2, d3] }
  | _ => none }
def ScaleAboveWrongFalsely : Prop := scaleAboveRow.holds Try.pinned (OpenSpec.ofChange scaleAboveWrong)

/- THE SECOND FORM. 'bulk': how many values and letters a reading holds, each counted each time it is reached (what is shared counts as often as it is met; a slice's spare places count too). A statement '..UptoSaid' is the law's where the arguments, and the package variables that the reading takes, are together of bulk at most 1048576: NARROWER than '..Said'. Prove '..Said' where nothing that the law and all that it calls make is longer than what came in: it says more and counts as full. Else prove '..UptoSaid'. A law counts once. -/
mutual
def uptoBulk {H : Type} : DataW H → Nat
  | .lit (.string bytes) => bytes.length + 1
  | .lit _ => 1
  | .nil => 1
  | .ptr d => uptoBulk d + 1
  | .slice elems spare => uptoBulkAll elems + uptoBulkAll spare + 1
  | .agg parts => uptoBulkAll parts + 1
  | .iface _ d => uptoBulk d + 1
  | .map entries => uptoBulkEntries entries + 1
  | .held _ => 1
def uptoBulkAll {H : Type} : List (DataW H) → Nat
  | [] => 0
  | d :: r => uptoBulk d + uptoBulkAll r
def uptoBulkEntries {H : Type} : List (Lit × DataW H) → Nat
  | [] => 0
  | x :: r => uptoBulkEntry x + uptoBulkEntries r
def uptoBulkEntry {H : Type} : Lit × DataW H → Nat
  | (.string bytes, d) => bytes.length + uptoBulk d + 1
  | (_, d) => uptoBulk d + 1
 end
def uptoSmall : (H : Type) → List (DataW H) → Bool := fun _ ds => decide (uptoBulkAll ds ≤ 1048576)
def OpenSpec.upto (s : _root_.Go.ChangeSpec) : _root_.Go.OpenSpec := { _root_.Go.OpenSpec.ofChange s with cond := some uptoSmall }

/-- 'damperlaw10.ScaleDecides', WHERE WHAT IT READS IS OF BULK AT MOST 1048576: true; the input reads as it did. -/
def scaleDecidesUptoRow : OpenClaim := { program := "ytlikdmeickbigaa", sum := "dff8740ee573d630e45c61836e97f8e70bd8730628cbb93df03a2e8c8ae0d504", func := "damper/damperlaw10.ScaleDecides", spec := "scaleDecides", apart := false, narrowed := true }
def ScaleDecidesUptoSaid : Prop := scaleDecidesUptoRow.holds Try.pinned (OpenSpec.upto scaleDecidesSpec)

/-- 'damperlaw10.ScaleBounds', WHERE WHAT IT READS IS OF BULK AT MOST 1048576: true; the input reads as it did. -/
def scaleBoundsUptoRow : OpenClaim := { program := "ytlikdmeickbigaa", sum := "dff8740ee573d630e45c61836e97f8e70bd8730628cbb93df03a2e8c8ae0d504", func := "damper/damperlaw10.ScaleBounds", spec := "scaleBounds", apart := false, narrowed := true }
def ScaleBoundsUptoSaid : Prop := scaleBoundsUptoRow.holds Try.pinned (OpenSpec.upto scaleBoundsSpec)

/-- 'damperlaw10.ScaleZero', WHERE WHAT IT READS IS OF BULK AT MOST 1048576: true; the input reads as it did. -/
def scaleZeroUptoRow : OpenClaim := { program := "ytlikdmeickbigaa", sum := "dff8740ee573d630e45c61836e97f8e70bd8730628cbb93df03a2e8c8ae0d504", func := "damper/damperlaw10.ScaleZero", spec := "scaleZero", apart := false, narrowed := true }
def ScaleZeroUptoSaid : Prop := scaleZeroUptoRow.holds Try.pinned (OpenSpec.upto scaleZeroSpec)

/-- 'damperlaw10.ScalePanic', WHERE WHAT IT READS IS OF BULK AT MOST 1048576: true; the input reads as it did. -/
def scalePanicUptoRow : OpenClaim := { program := "ytlikdmeickbigaa", sum := "dff8740ee573d630e45c61836e97f8e70bd8730628cbb93df03a2e8c8ae0d504", func := "damper/damperlaw10.ScalePanic", spec := "scalePanic", apart := false, narrowed := true }
def ScalePanicUptoSaid : Prop := scalePanicUptoRow.holds Try.pinned (OpenSpec.upto scalePanicSpec)

/-- 'damperlaw10.ScaleMore', WHERE WHAT IT READS IS OF BULK AT MOST 1048576: true; the input reads as it did. -/
def scaleMoreUptoRow : OpenClaim := { program := "ytlikdmeickbigaa", sum := "dff8740ee573d630e45c61836e97f8e70bd8730628cbb93df03a2e8c8ae0d504", func := "damper/damperlaw10.ScaleMore", spec := "scaleMore", apart := false, narrowed := true }
def ScaleMoreUptoSaid : Prop := scaleMoreUptoRow.holds Try.pinned (OpenSpec.upto scaleMoreSpec)

/-- 'damperlaw10.ScaleKnown', WHERE WHAT IT READS IS OF BULK AT MOST 1048576: true; the input reads as it did. -/
def scaleKnownUptoRow : OpenClaim := { program := "ytlikdmeickbigaa", sum := "dff8740ee573d630e45c61836e97f8e70bd8730628cbb93df03a2e8c8ae0d504", func := "damper/damperlaw10.ScaleKnown", spec := "scaleKnown", apart := false, narrowed := true }
def ScaleKnownUptoSaid : Prop := scaleKnownUptoRow.holds Try.pinned (OpenSpec.upto scaleKnownSpec)

/-- 'damperlaw10.ScaleAgain', WHERE WHAT IT READS IS OF BULK AT MOST 1048576: true; the input reads as it did. -/
def scaleAgainUptoRow : OpenClaim := { program := "ytlikdmeickbigaa", sum := "dff8740ee573d630e45c61836e97f8e70bd8730628cbb93df03a2e8c8ae0d504", func := "damper/damperlaw10.ScaleAgain", spec := "scaleAgain", apart := false, narrowed := true }
def ScaleAgainUptoSaid : Prop := scaleAgainUptoRow.holds Try.pinned (OpenSpec.upto scaleAgainSpec)

/-- 'damperlaw10.ScaleDown', WHERE WHAT IT READS IS OF BULK AT MOST 1048576: true; the input reads as it did. -/
def scaleDownUptoRow : OpenClaim := { program := "ytlikdmeickbigaa", sum := "dff8740ee573d630e45c61836e97f8e70bd8730628cbb93df03a2e8c8ae0d504", func := "damper/damperlaw10.ScaleDown", spec := "scaleDown", apart := false, narrowed := true }
def ScaleDownUptoSaid : Prop := scaleDownUptoRow.holds Try.pinned (OpenSpec.upto scaleDownSpec)

/-- 'damperlaw10.ScaleNone', WHERE WHAT IT READS IS OF BULK AT MOST 1048576: true; the input reads as it did. -/
def scaleNoneUptoRow : OpenClaim := { program := "ytlikdmeickbigaa", sum := "dff8740ee573d630e45c61836e97f8e70bd8730628cbb93df03a2e8c8ae0d504", func := "damper/damperlaw10.ScaleNone", spec := "scaleNone", apart := false, narrowed := true }
def ScaleNoneUptoSaid : Prop := scaleNoneUptoRow.holds Try.pinned (OpenSpec.upto scaleNoneSpec)

/-- 'damperlaw10.ScaleAbove', WHERE WHAT IT READS IS OF BULK AT MOST 1048576: true; the input reads as it did. -/
def scaleAboveUptoRow : OpenClaim := { program := "ytlikdmeickbigaa", sum := "dff8740ee573d630e45c61836e97f8e70bd8730628cbb93df03a2e8c8ae0d504", func := "damper/damperlaw10.ScaleAbove", spec := "scaleAbove", apart := false, narrowed := true }
def ScaleAboveUptoSaid : Prop := scaleAboveUptoRow.holds Try.pinned (OpenSpec.upto scaleAboveSpec)

end Rows
end Go.Proofs.Ytlikdmeickbigaa
