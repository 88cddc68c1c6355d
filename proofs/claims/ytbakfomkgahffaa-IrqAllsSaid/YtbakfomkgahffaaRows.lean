/-
  No cell of these rows narrows 'for every input' (looked for: loops, veiled, ifaces, maps, wideKeys, modest, calm, conditions, laid).
  DERIVED. THE GIVEN ROWS OF THIS SEAT. 6 by the template 'for every input the law returns true; each argument reads behind the call as it read before'; 0 by the template 'total and deterministic' (their statements: YtbakfomkgahffaaTotals.lean).
  GIVEN WITH THE SEED: the statements are not yours to turn. If you find one false, say at which input.
  Laid BY PROGRAM, IN A SANDBOX (cutbox-rows.mjs): the forced cells as the released guide's own fill.sh prints them over the translation 5a1ee80f4ac6197e… (all of the seat's roots in one cut). By AI agents, Wed Nov 11 2026. No macro, syntax, notation, axiom, sorry.
-/
import Derived.Test.YtbakfomkgahffaaChecked
import GoSem.Claim
import GoSem.ClaimJoined
import GoSem.ClaimMapViews
import Derived.JoinedTies
import Derived.KernelRfl
namespace Go.Proofs.Ytbakfomkgahffaa
/- THE CELL 'sum', in the pinned program and in every row, IS THE sha256 OF THE DUMP (.gsa) THAT YtbakfomkgahffaaProg.lean LOADS. Nothing in Lean hashes anything: it is a label: what it is worth is what the hold of that sum in a sandbox is worth. -/
noncomputable def Try.pinned : Pinned := { name := "ytbakfomkgahffaa", sum := "5a1ee80f4ac6197e059f31a13ab828df3868e25b48d292de4c9504eeeebc6f26", checked := Try.checked }
namespace Rows
def none {H : Type} : Left H := { results := [], args := [] }

/-- 'whirligiglaw14.IrqPendings': WHATEVER THE INPUT: true; the input reads as it did. -/
def irqPendingsSpec : ChangeSpec := { name := "irqPendings", fn := fun _ => fun
  | [d1, d2] => { results := [.lit (.bool true)], args := [d1, d2] }
  | _ => none }
def irqPendingsRow : OpenClaim := { program := "ytbakfomkgahffaa", sum := "5a1ee80f4ac6197e059f31a13ab828df3868e25b48d292de4c9504eeeebc6f26", func := "whirligig/whirligiglaw14.IrqPendings", spec := "irqPendings", unfollowed := true, recurses := true, apart := false }
def IrqPendingsSaid : Prop := irqPendingsRow.holds Try.pinned (OpenSpec.ofChange irqPendingsSpec)

/-- ITS FALSE NEIGHBOUR: 'it returns false'. Refute it at one input. -/
def irqPendingsWrong : ChangeSpec := { name := "irqPendings", fn := fun _ => fun
  | [d1, d2] => { results := [.lit (.bool false)], args := [d1, d2] }
  | _ => none }
def IrqPendingsWrongFalsely : Prop := irqPendingsRow.holds Try.pinned (OpenSpec.ofChange irqPendingsWrong)

/-- 'whirligiglaw14.IrqAlls': WHATEVER THE INPUT: true; the input reads as it did. -/
def irqAllsSpec : ChangeSpec := { name := "irqAlls", fn := fun _ => fun
  | [d1, d2] => { results := [.lit (.bool true)], args := [d1, d2] }
  | _ => none }
def irqAllsRow : OpenClaim := { program := "ytbakfomkgahffaa", sum := "5a1ee80f4ac6197e059f31a13ab828df3868e25b48d292de4c9504eeeebc6f26", func := "whirligig/whirligiglaw14.IrqAlls", spec := "irqAlls", unfollowed := true, recurses := true, apart := false }
def IrqAllsSaid : Prop := irqAllsRow.holds Try.pinned (OpenSpec.ofChange irqAllsSpec)

/-- ITS FALSE NEIGHBOUR: 'it returns false'. Refute it at one input. -/
def irqAllsWrong : ChangeSpec := { name := "irqAlls", fn := fun _ => fun
  | [d1, d2] => { results := [.lit (.bool false)], args := [d1, d2] }
  | _ => none }
def IrqAllsWrongFalsely : Prop := irqAllsRow.holds Try.pinned (OpenSpec.ofChange irqAllsWrong)

/-- 'whirligiglaw14.IrqVectors': WHATEVER THE INPUT: true; the input reads as it did. -/
def irqVectorsSpec : ChangeSpec := { name := "irqVectors", fn := fun _ => fun
  | [d] => { results := [.lit (.bool true)], args := [d] }
  | _ => none }
def irqVectorsRow : OpenClaim := { program := "ytbakfomkgahffaa", sum := "5a1ee80f4ac6197e059f31a13ab828df3868e25b48d292de4c9504eeeebc6f26", func := "whirligig/whirligiglaw14.IrqVectors", spec := "irqVectors", unfollowed := true, recurses := true, apart := false }
def IrqVectorsSaid : Prop := irqVectorsRow.holds Try.pinned (OpenSpec.ofChange irqVectorsSpec)

/-- ITS FALSE NEIGHBOUR: 'it returns false'. Refute it at one input. -/
def irqVectorsWrong : ChangeSpec := { name := "irqVectors", fn := fun _ => fun
  | [d] => { results := [.lit (.bool false)], args := [d] }
  | _ => none }
def IrqVectorsWrongFalsely : Prop := irqVectorsRow.holds Try.pinned (OpenSpec.ofChange irqVectorsWrong)

/-- 'whirligiglaw14.IrqBus': WHATEVER THE INPUT: true; the input reads as it did. -/
def irqBusSpec : ChangeSpec := { name := "irqBus", fn := fun _ => fun
  | [d1, d2, d3] => { results := [.lit (.bool true)], args := [d1, d2, d3] }
  | _ => none }
def irqBusRow : OpenClaim := { program := "ytbakfomkgahffaa", sum := "5a1ee80f4ac6197e059f31a13ab828df3868e25b48d292de4c9504eeeebc6f26", func := "whirligig/whirligiglaw14.IrqBus", spec := "irqBus", unfollowed := true, recurses := true, apart := false }
def IrqBusSaid : Prop := irqBusRow.holds Try.pinned (OpenSpec.ofChange irqBusSpec)

/-- ITS FALSE NEIGHBOUR: 'it returns false'. Refute it at one input. -/
def irqBusWrong : ChangeSpec := { name := "irqBus", fn := fun _ => fun
  | [d1, d2, d3] => { results := [.lit (.bool false)], args := [d1, d2, d3] }
  | _ => none }
def IrqBusWrongFalsely : Prop := irqBusRow.holds Try.pinned (OpenSpec.ofChange irqBusWrong)

/-- 'whirligiglaw14.IrqAsks': WHATEVER THE INPUT: true; the input reads as it did. -/
def irqAsksSpec : ChangeSpec := { name := "irqAsks", fn := fun _ => fun
  | [d1, d2] => { results := [.lit (.bool true)], args := [d1, d2] }
  | _ => none }
def irqAsksRow : OpenClaim := { program := "ytbakfomkgahffaa", sum := "5a1ee80f4ac6197e059f31a13ab828df3868e25b48d292de4c9504eeeebc6f26", func := "whirligig/whirligiglaw14.IrqAsks", spec := "irqAsks", unfollowed := true, recurses := true, apart := false }
def IrqAsksSaid : Prop := irqAsksRow.holds Try.pinned (OpenSpec.ofChange irqAsksSpec)

/-- ITS FALSE NEIGHBOUR: 'it returns false'. Refute it at one input. -/
def irqAsksWrong : ChangeSpec := { name := "irqAsks", fn := fun _ => fun
  | [d1, d2] => { results := [.lit (.bool false)], args := [d1, d2] }
  | _ => none }
def IrqAsksWrongFalsely : Prop := irqAsksRow.holds Try.pinned (OpenSpec.ofChange irqAsksWrong)

/-- 'whirligiglaw14.IrqTakes': WHATEVER THE INPUT: true; the input reads as it did. -/
def irqTakesSpec : ChangeSpec := { name := "irqTakes", fn := fun _ => fun
  | [d1, d2] => { results := [.lit (.bool true)], args := [d1, d2] }
  | _ => none }
def irqTakesRow : OpenClaim := { program := "ytbakfomkgahffaa", sum := "5a1ee80f4ac6197e059f31a13ab828df3868e25b48d292de4c9504eeeebc6f26", func := "whirligig/whirligiglaw14.IrqTakes", spec := "irqTakes", unfollowed := true, recurses := true, apart := false }
def IrqTakesSaid : Prop := irqTakesRow.holds Try.pinned (OpenSpec.ofChange irqTakesSpec)

/-- ITS FALSE NEIGHBOUR: 'it returns false'. Refute it at one input. -/
def irqTakesWrong : ChangeSpec := { name := "irqTakes", fn := fun _ => fun
  | [d1, d2] => { results := [.lit (.bool false)], args := [d1, d2] }
  | _ => none }
def IrqTakesWrongFalsely : Prop := irqTakesRow.holds Try.pinned (OpenSpec.ofChange irqTakesWrong)

/- THE SECOND FORM. 'bulk': how many values and letters a reading holds, each counted each time it is reached (what is shared counts as often as it is met; a slice's spare places count too). A statement '..UptoSaid' is the law's where the arguments, and the package variables that the reading takes, are together of bulk at most 1048576: NARROWER than '..Said'. Prove '..Said' where nothing that the law and all that it calls make is longer than what came in: it says more and counts as full. Else prove '..UptoSaid'. A law counts once. -/
mutual
def uptoBulk {H : Type} : DataW H → Nat
  | .lit (.string bytes) => bytes.length + 1
  | .lit _ => 1
  | .nil => 1
  | .ptr d => uptoBulk d + 1
  | .slice elems spare => uptoBulkAll elems + uptoBulkAll spare + 1
  | .agg parts => uptoBulkAll parts + 1
  | .iface _ d => uptoBulk d + 1
  | .map entries => uptoBulkEntries entries + 1
  | .held _ => 1
def uptoBulkAll {H : Type} : List (DataW H) → Nat
  | [] => 0
  | d :: r => uptoBulk d + uptoBulkAll r
def uptoBulkEntries {H : Type} : List (Lit × DataW H) → Nat
  | [] => 0
  | x :: r => uptoBulkEntry x + uptoBulkEntries r
def uptoBulkEntry {H : Type} : Lit × DataW H → Nat
  | (.string bytes, d) => bytes.length + uptoBulk d + 1
  | (_, d) => uptoBulk d + 1
 end
def uptoSmall : (H : Type) → List (DataW H) → Bool := fun _ ds => decide (uptoBulkAll ds ≤ 1048576)
def OpenSpec.upto (s : _root_.Go.ChangeSpec) : _root_.Go.OpenSpec := { _root_.Go.OpenSpec.ofChange s with cond := some uptoSmall }

/-- 'whirligiglaw14.IrqPendings', WHERE WHAT IT READS IS OF BULK AT MOST 1048576: true; the input reads as it did. -/
def irqPendingsUptoRow : OpenClaim := { program := "ytbakfomkgahffaa", sum := "5a1ee80f4ac6197e059f31a13ab828df3868e25b48d292de4c9504eeeebc6f26", func := "whirligig/whirligiglaw14.IrqPendings", spec := "irqPendings", unfollowed := true, recurses := true, apart := false, narrowed := true }
def IrqPendingsUptoSaid : Prop := irqPendingsUptoRow.holds Try.pinned (OpenSpec.upto irqPendingsSpec)

/-- 'whirligiglaw14.IrqAlls', WHERE WHAT IT READS IS OF BULK AT MOST 1048576: true; the input reads as it did. -/
def irqAllsUptoRow : OpenClaim := { program := "ytbakfomkgahffaa", sum := "5a1ee80f4ac6197e059f31a13ab828df3868e25b48d292de4c9504eeeebc6f26", func := "whirligig/whirligiglaw14.IrqAlls", spec := "irqAlls", unfollowed := true, recurses := true, apart := false, narrowed := true }
def IrqAllsUptoSaid : Prop := irqAllsUptoRow.holds Try.pinned (OpenSpec.upto irqAllsSpec)

/-- 'whirligiglaw14.IrqVectors', WHERE WHAT IT READS IS OF BULK AT MOST 1048576: true; the input reads as it did. -/
def irqVectorsUptoRow : OpenClaim := { program := "ytbakfomkgahffaa", sum := "5a1ee80f4ac6197e059f31a13ab828df3868e25b48d292de4c9504eeeebc6f26", func := "whirligig/whirligiglaw14.IrqVectors", spec := "irqVectors", unfollowed := true, recurses := true, apart := false, narrowed := true }
def IrqVectorsUptoSaid : Prop := irqVectorsUptoRow.holds Try.pinned (OpenSpec.upto irqVectorsSpec)

/-- 'whirligiglaw14.IrqBus', WHERE WHAT IT READS IS OF BULK AT MOST 1048576: true; the input reads as it did. -/
def irqBusUptoRow : OpenClaim := { program := "ytbakfomkgahffaa", sum := "5a1ee80f4ac6197e059f31a13ab828df3868e25b48d292de4c9504eeeebc6f26", func := "whirligig/whirligiglaw14.IrqBus", spec := "irqBus", unfollowed := true, recurses := true, apart := false, narrowed := true }
def IrqBusUptoSaid : Prop := irqBusUptoRow.holds Try.pinned (OpenSpec.upto irqBusSpec)

/-- 'whirligiglaw14.IrqAsks', WHERE WHAT IT READS IS OF BULK AT MOST 1048576: true; the input reads as it did. -/
def irqAsksUptoRow : OpenClaim := { program := "ytbakfomkgahffaa", sum := "5a1ee80f4ac6197e059f31a13ab828df3868e25b48d292de4c9504eeeebc6f26", func := "whirligig/whirligiglaw14.IrqAsks", spec := "irqAsks", unfollowed := true, recurses := true, apart := false, narrowed := true }
def IrqAsksUptoSaid : Prop := irqAsksUptoRow.holds Try.pinned (OpenSpec.upto irqAsksSpec)

/-- 'whirligiglaw14.IrqTakes', WHERE WHAT IT READS IS OF BULK AT MOST 1048576: true; the input reads as it did. -/
def irqTakesUptoRow : OpenClaim := { program := "ytbakfomkgahffaa", sum := "5a1ee80f4ac6197e059f31a13ab828df3868e25b48d292de4c9504eeeebc6f26", func := "whirligig/whirligiglaw14.IrqTakes", spec := "irqTakes", unfollowed := true, recurses := true, apart := false, narrowed := true }
def IrqTakesUptoSaid : Prop := irqTakesUptoRow.holds Try.pinned (OpenSpec.upto irqTakesSpec)

end Rows
end Go.Proofs.Ytbakfomkgahffaa
