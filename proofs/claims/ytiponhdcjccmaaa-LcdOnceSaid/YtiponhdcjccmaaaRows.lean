/-
  No cell of these rows narrows 'for every input' (looked for: loops, veiled, ifaces, maps, wideKeys, modest, calm, conditions, laid).
  DERIVED. THE GIVEN ROWS OF THIS SEAT. 8 by the template 'for every input the law returns true; each argument reads behind the call as it read before'; 0 by the template 'total and deterministic' (their statements: YtiponhdcjccmaaaTotals.lean).
  GIVEN WITH THE SEED: the statements are not yours to turn. If you find one false, say at which input.
  Laid BY PROGRAM, IN A SANDBOX (cutbox-rows.mjs): the forced cells as the released guide's own fill.sh prints them over the translation 8488c7dee7a59811… (all of the seat's roots in one cut). By AI agents, Wed Nov 11 2026. No macro, syntax, notation, axiom, sorry.
-/
import Derived.Test.YtiponhdcjccmaaaChecked
import GoSem.Claim
import GoSem.ClaimJoined
import GoSem.ClaimMapViews
import Derived.JoinedTies
import Derived.KernelRfl
namespace Go.Proofs.Ytiponhdcjccmaaa
/- THE CELL 'sum', in the pinned program and in every row, IS THE sha256 OF THE DUMP (.gsa) THAT YtiponhdcjccmaaaProg.lean LOADS. Nothing in Lean hashes anything: it is a label: what it is worth is what the hold of that sum in a sandbox is worth. -/
noncomputable def Try.pinned : Pinned := { name := "ytiponhdcjccmaaa", sum := "8488c7dee7a59811d1bd910ccc8ae3b0c5aa113a9b3d3522c7d48a5123d3fcdd", checked := Try.checked }
namespace Rows
def none {H : Type} : Left H := { results := [], args := [] }

/-- 'whirligiglaw15.LcdSteps': WHATEVER THE INPUT: true; the input reads as it did. -/
def lcdStepsSpec : ChangeSpec := { name := "lcdSteps", fn := fun _ => fun
  | [d1, d2] => { results := [.lit (.bool true)], args := [d1, d2] }
  | _ => none }
def lcdStepsRow : OpenClaim := { program := "ytiponhdcjccmaaa", sum := "8488c7dee7a59811d1bd910ccc8ae3b0c5aa113a9b3d3522c7d48a5123d3fcdd", func := "whirligig/whirligiglaw15.LcdSteps", spec := "lcdSteps", apart := false }
def LcdStepsSaid : Prop := lcdStepsRow.holds Try.pinned (OpenSpec.ofChange lcdStepsSpec)

/-- ITS FALSE NEIGHBOUR: 'it returns false'. Refute it at one input. -/
def lcdStepsWrong : ChangeSpec := { name := "lcdSteps", fn := fun _ => fun
  | [d1, d2] => { results := [.lit (.bool false)], args := [d1, d2] }
  | _ => none }
def LcdStepsWrongFalsely : Prop := lcdStepsRow.holds Try.pinned (OpenSpec.ofChange lcdStepsWrong)

/-- 'whirligiglaw15.LcdReads': WHATEVER THE INPUT: true; the input reads as it did. -/
def lcdReadsSpec : ChangeSpec := { name := "lcdReads", fn := fun _ => fun
  | [d1, d2] => { results := [.lit (.bool true)], args := [d1, d2] }
  | _ => none }
def lcdReadsRow : OpenClaim := { program := "ytiponhdcjccmaaa", sum := "8488c7dee7a59811d1bd910ccc8ae3b0c5aa113a9b3d3522c7d48a5123d3fcdd", func := "whirligig/whirligiglaw15.LcdReads", spec := "lcdReads", apart := false }
def LcdReadsSaid : Prop := lcdReadsRow.holds Try.pinned (OpenSpec.ofChange lcdReadsSpec)

/-- ITS FALSE NEIGHBOUR: 'it returns false'. Refute it at one input. -/
def lcdReadsWrong : ChangeSpec := { name := "lcdReads", fn := fun _ => fun
  | [d1, d2] => { results := [.lit (.bool false)], args := [d1, d2] }
  | _ => none }
def LcdReadsWrongFalsely : Prop := lcdReadsRow.holds Try.pinned (OpenSpec.ofChange lcdReadsWrong)

/-- 'whirligiglaw15.LcdLines': WHATEVER THE INPUT: true; the input reads as it did. -/
def lcdLinesSpec : ChangeSpec := { name := "lcdLines", fn := fun _ => fun
  | [d1, d2] => { results := [.lit (.bool true)], args := [d1, d2] }
  | _ => none }
def lcdLinesRow : OpenClaim := { program := "ytiponhdcjccmaaa", sum := "8488c7dee7a59811d1bd910ccc8ae3b0c5aa113a9b3d3522c7d48a5123d3fcdd", func := "whirligig/whirligiglaw15.LcdLines", spec := "lcdLines", apart := false }
def LcdLinesSaid : Prop := lcdLinesRow.holds Try.pinned (OpenSpec.ofChange lcdLinesSpec)

/-- ITS FALSE NEIGHBOUR: 'it returns false'. Refute it at one input. -/
def lcdLinesWrong : ChangeSpec := { name := "lcdLines", fn := fun _ => fun
  | [d1, d2] => { results := [.lit (.bool false)], args := [d1, d2] }
  | _ => none }
def LcdLinesWrongFalsely : Prop := lcdLinesRow.holds Try.pinned (OpenSpec.ofChange lcdLinesWrong)

/-- 'whirligiglaw15.LcdOnce': WHATEVER THE INPUT: true; the input reads as it did. -/
def lcdOnceSpec : ChangeSpec := { name := "lcdOnce", fn := fun _ => fun
  | [d1, d2, d3] => { results := [.lit (.bool true)], args := [d1, d2, d3] }
  | _ => none }
def lcdOnceRow : OpenClaim := { program := "ytiponhdcjccmaaa", sum := "8488c7dee7a59811d1bd910ccc8ae3b0c5aa113a9b3d3522c7d48a5123d3fcdd", func := "whirligig/whirligiglaw15.LcdOnce", spec := "lcdOnce", apart := false }
def LcdOnceSaid : Prop := lcdOnceRow.holds Try.pinned (OpenSpec.ofChange lcdOnceSpec)

/-- ITS FALSE NEIGHBOUR: 'it returns false'. Refute it at one input. -/
def lcdOnceWrong : ChangeSpec := { name := "lcdOnce", fn := fun _ => fun
  | [d1, d2, d3] => { results := [.lit (.bool false)], args := [d1, d2, d3] }
  | _ => none }
def LcdOnceWrongFalsely : Prop := lcdOnceRow.holds Try.pinned (OpenSpec.ofChange lcdOnceWrong)

/-- 'whirligiglaw15.LcdPowers': WHATEVER THE INPUT: true; the input reads as it did. -/
def lcdPowersSpec : ChangeSpec := { name := "lcdPowers", fn := fun _ => fun
  | [d1, d2] => { results := [.lit (.bool true)], args := [d1, d2] }
  | _ => none }
def lcdPowersRow : OpenClaim := { program := "ytiponhdcjccmaaa", sum := "8488c7dee7a59811d1bd910ccc8ae3b0c5aa113a9b3d3522c7d48a5123d3fcdd", func := "whirligig/whirligiglaw15.LcdPowers", spec := "lcdPowers", apart := false }
def LcdPowersSaid : Prop := lcdPowersRow.holds Try.pinned (OpenSpec.ofChange lcdPowersSpec)

/-- ITS FALSE NEIGHBOUR: 'it returns false'. Refute it at one input. -/
def lcdPowersWrong : ChangeSpec := { name := "lcdPowers", fn := fun _ => fun
  | [d1, d2] => { results := [.lit (.bool false)], args := [d1, d2] }
  | _ => none }
def LcdPowersWrongFalsely : Prop := lcdPowersRow.holds Try.pinned (OpenSpec.ofChange lcdPowersWrong)

/-- 'whirligiglaw15.LcdFrames': WHATEVER THE INPUT: true; the input reads as it did. -/
def lcdFramesSpec : ChangeSpec := { name := "lcdFrames", fn := fun _ => fun
  | [d1, d2, d3] => { results := [.lit (.bool true)], args := [d1, d2, d3] }
  | _ => none }
def lcdFramesRow : OpenClaim := { program := "ytiponhdcjccmaaa", sum := "8488c7dee7a59811d1bd910ccc8ae3b0c5aa113a9b3d3522c7d48a5123d3fcdd", func := "whirligig/whirligiglaw15.LcdFrames", spec := "lcdFrames", apart := false }
def LcdFramesSaid : Prop := lcdFramesRow.holds Try.pinned (OpenSpec.ofChange lcdFramesSpec)

/-- ITS FALSE NEIGHBOUR: 'it returns false'. Refute it at one input. -/
def lcdFramesWrong : ChangeSpec := { name := "lcdFrames", fn := fun _ => fun
  | [d1, d2, d3] => { results := [.lit (.bool false)], args := [d1, d2, d3] }
  | _ => none }
def LcdFramesWrongFalsely : Prop := lcdFramesRow.holds Try.pinned (OpenSpec.ofChange lcdFramesWrong)

/-- 'whirligiglaw15.LcdModes': WHATEVER THE INPUT: true; the input reads as it did. -/
def lcdModesSpec : ChangeSpec := { name := "lcdModes", fn := fun _ => fun
  | [d] => { results := [.lit (.bool true)], args := [d] }
  | _ => none }
def lcdModesRow : OpenClaim := { program := "ytiponhdcjccmaaa", sum := "8488c7dee7a59811d1bd910ccc8ae3b0c5aa113a9b3d3522c7d48a5123d3fcdd", func := "whirligig/whirligiglaw15.LcdModes", spec := "lcdModes", apart := false }
def LcdModesSaid : Prop := lcdModesRow.holds Try.pinned (OpenSpec.ofChange lcdModesSpec)

/-- ITS FALSE NEIGHBOUR: 'it returns false'. Refute it at one input. -/
def lcdModesWrong : ChangeSpec := { name := "lcdModes", fn := fun _ => fun
  | [d] => { results := [.lit (.bool false)], args := [d] }
  | _ => none }
def LcdModesWrongFalsely : Prop := lcdModesRow.holds Try.pinned (OpenSpec.ofChange lcdModesWrong)

/-- 'whirligiglaw15.LcdWrites': WHATEVER THE INPUT: true; the input reads as it did. -/
def lcdWritesSpec : ChangeSpec := { name := "lcdWrites", fn := fun _ => fun
  | [d1, d2, d3] => { results := [.lit (.bool true)], args := [d1, d2, d3] }
  | _ => none }
def lcdWritesRow : OpenClaim := { program := "ytiponhdcjccmaaa", sum := "8488c7dee7a59811d1bd910ccc8ae3b0c5aa113a9b3d3522c7d48a5123d3fcdd", func := "whirligig/whirligiglaw15.LcdWrites", spec := "lcdWrites", apart := false }
def LcdWritesSaid : Prop := lcdWritesRow.holds Try.pinned (OpenSpec.ofChange lcdWritesSpec)

/-- ITS FALSE NEIGHBOUR: 'it returns false'. Refute it at one input. -/
def lcdWritesWrong : ChangeSpec := { name := "lcdWrites", fn := fun _ => fun
  | [d1, d2, d3] => { results := [.lit (.bool false)], args := [d1, d2, d3] }
  | _ => none }
def LcdWritesWrongFalsely : Prop := lcdWritesRow.holds Try.pinned (OpenSpec.ofChange lcdWritesWrong)

/- THE SECOND FORM. 'bulk': how many values and letters a reading holds, each counted each time it is reached (what is shared counts as often as it is met; a slice's spare places count too). A statement '..UptoSaid' is the law's where the arguments, and the package variables that the reading takes, are together of bulk at most 1048576: NARROWER than '..Said'. Prove '..Said' where nothing that the law and all that it calls make is longer than what came in: it says more and counts as full. Else prove '..UptoSaid'. A law counts once. -/
mutual
def uptoBulk {H : Type} : DataW H → Nat
  | .lit (.string bytes) => bytes.length + 1
  | .lit _ => 1
  | .nil => 1
  | .ptr d => uptoBulk d + 1
  | .slice elems spare => uptoBulkAll elems + uptoBulkAll spare + 1
  | .agg parts => uptoBulkAll parts + 1
  | .iface _ d => uptoBulk d + 1
  | .map entries => uptoBulkEntries entries + 1
  | .held _ => 1
def uptoBulkAll {H : Type} : List (DataW H) → Nat
  | [] => 0
  | d :: r => uptoBulk d + uptoBulkAll r
def uptoBulkEntries {H : Type} : List (Lit × DataW H) → Nat
  | [] => 0
  | x :: r => uptoBulkEntry x + uptoBulkEntries r
def uptoBulkEntry {H : Type} : Lit × DataW H → Nat
  | (.string bytes, d) => bytes.length + uptoBulk d + 1
  | (_, d) => uptoBulk d + 1
 end
def uptoSmall : (H : Type) → List (DataW H) → Bool := fun _ ds => decide (uptoBulkAll ds ≤ 1048576)
def OpenSpec.upto (s : _root_.Go.ChangeSpec) : _root_.Go.OpenSpec := { _root_.Go.OpenSpec.ofChange s with cond := some uptoSmall }

/-- 'whirligiglaw15.LcdSteps', WHERE WHAT IT READS IS OF BULK AT MOST 1048576: true; the input reads as it did. -/
def lcdStepsUptoRow : OpenClaim := { program := "ytiponhdcjccmaaa", sum := "8488c7dee7a59811d1bd910ccc8ae3b0c5aa113a9b3d3522c7d48a5123d3fcdd", func := "whirligig/whirligiglaw15.LcdSteps", spec := "lcdSteps", apart := false, narrowed := true }
def LcdStepsUptoSaid : Prop := lcdStepsUptoRow.holds Try.pinned (OpenSpec.upto lcdStepsSpec)

/-- 'whirligiglaw15.LcdReads', WHERE WHAT IT READS IS OF BULK AT MOST 1048576: true; the input reads as it did. -/
def lcdReadsUptoRow : OpenClaim := { program := "ytiponhdcjccmaaa", sum := "8488c7dee7a59811d1bd910ccc8ae3b0c5aa113a9b3d3522c7d48a5123d3fcdd", func := "whirligig/whirligiglaw15.LcdReads", spec := "lcdReads", apart := false, narrowed := true }
def LcdReadsUptoSaid : Prop := lcdReadsUptoRow.holds Try.pinned (OpenSpec.upto lcdReadsSpec)

/-- 'whirligiglaw15.LcdLines', WHERE WHAT IT READS IS OF BULK AT MOST 1048576: true; the input reads as it did. -/
def lcdLinesUptoRow : OpenClaim := { program := "ytiponhdcjccmaaa", sum := "8488c7dee7a59811d1bd910ccc8ae3b0c5aa113a9b3d3522c7d48a5123d3fcdd", func := "whirligig/whirligiglaw15.LcdLines", spec := "lcdLines", apart := false, narrowed := true }
def LcdLinesUptoSaid : Prop := lcdLinesUptoRow.holds Try.pinned (OpenSpec.upto lcdLinesSpec)

/-- 'whirligiglaw15.LcdOnce', WHERE WHAT IT READS IS OF BULK AT MOST 1048576: true; the input reads as it did. -/
def lcdOnceUptoRow : OpenClaim := { program := "ytiponhdcjccmaaa", sum := "8488c7dee7a59811d1bd910ccc8ae3b0c5aa113a9b3d3522c7d48a5123d3fcdd", func := "whirligig/whirligiglaw15.LcdOnce", spec := "lcdOnce", apart := false, narrowed := true }
def LcdOnceUptoSaid : Prop := lcdOnceUptoRow.holds Try.pinned (OpenSpec.upto lcdOnceSpec)

/-- 'whirligiglaw15.LcdPowers', WHERE WHAT IT READS IS OF BULK AT MOST 1048576: true; the input reads as it did. -/
def lcdPowersUptoRow : OpenClaim := { program := "ytiponhdcjccmaaa", sum := "8488c7dee7a59811d1bd910ccc8ae3b0c5aa113a9b3d3522c7d48a5123d3fcdd", func := "whirligig/whirligiglaw15.LcdPowers", spec := "lcdPowers", apart := false, narrowed := true }
def LcdPowersUptoSaid : Prop := lcdPowersUptoRow.holds Try.pinned (OpenSpec.upto lcdPowersSpec)

/-- 'whirligiglaw15.LcdFrames', WHERE WHAT IT READS IS OF BULK AT MOST 1048576: true; the input reads as it did. -/
def lcdFramesUptoRow : OpenClaim := { program := "ytiponhdcjccmaaa", sum := "8488c7dee7a59811d1bd910ccc8ae3b0c5aa113a9b3d3522c7d48a5123d3fcdd", func := "whirligig/whirligiglaw15.LcdFrames", spec := "lcdFrames", apart := false, narrowed := true }
def LcdFramesUptoSaid : Prop := lcdFramesUptoRow.holds Try.pinned (OpenSpec.upto lcdFramesSpec)

/-- 'whirligiglaw15.LcdModes', WHERE WHAT IT READS IS OF BULK AT MOST 1048576: true; the input reads as it did. -/
def lcdModesUptoRow : OpenClaim := { program := "ytiponhdcjccmaaa", sum := "8488c7dee7a59811d1bd910ccc8ae3b0c5aa113a9b3d3522c7d48a5123d3fcdd", func := "whirligig/whirligiglaw15.LcdModes", spec := "lcdModes", apart := false, narrowed := true }
def LcdModesUptoSaid : Prop := lcdModesUptoRow.holds Try.pinned (OpenSpec.upto lcdModesSpec)

/-- 'whirligiglaw15.LcdWrites', WHERE WHAT IT READS IS OF BULK AT MOST 1048576: true; the input reads as it did. -/
def lcdWritesUptoRow : OpenClaim := { program := "ytiponhdcjccmaaa", sum := "8488c7dee7a59811d1bd910ccc8ae3b0c5aa113a9b3d3522c7d48a5123d3fcdd", func := "whirligig/whirligiglaw15.LcdWrites", spec := "lcdWrites", apart := false, narrowed := true }
def LcdWritesUptoSaid : Prop := lcdWritesUptoRow.holds Try.pinned (OpenSpec.upto lcdWritesSpec)

end Rows
end Go.Proofs.Ytiponhdcjccmaaa
