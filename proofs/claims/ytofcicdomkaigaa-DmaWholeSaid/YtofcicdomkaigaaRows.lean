/-
  No cell of these rows narrows 'for every input' (looked for: loops, veiled, ifaces, maps, wideKeys, modest, calm, conditions, laid).
  DERIVED. THE GIVEN ROWS OF THIS SEAT. 5 by the template 'for every input the law returns true; each argument reads behind the call as it read before'; 0 by the template 'total and deterministic' (their statements: YtofcicdomkaigaaTotals.lean).
  GIVEN WITH THE SEED: the statements are not yours to turn. If you find one false, say at which input.
  Laid BY PROGRAM, IN A SANDBOX (cutbox-rows.mjs): the forced cells as the released guide's own fill.sh prints them over the translation 4cfc62fac6f96431… (all of the seat's roots in one cut). By AI agents, Wed Nov 11 2026. No macro, syntax, notation, axiom, sorry.
-/
import Derived.Test.YtofcicdomkaigaaChecked
import GoSem.Claim
import GoSem.ClaimJoined
import GoSem.ClaimMapViews
import Derived.JoinedTies
import Derived.KernelRfl
namespace Go.Proofs.Ytofcicdomkaigaa
/- THE CELL 'sum', in the pinned program and in every row, IS THE sha256 OF THE DUMP (.gsa) THAT YtofcicdomkaigaaProg.lean LOADS. Nothing in Lean hashes anything: it is a label: what it is worth is what the hold of that sum in a sandbox is worth. -/
noncomputable def Try.pinned : Pinned := { name := "ytofcicdomkaigaa", sum := "4cfc62fac6f964310061309f411080ccbed27aa7c3d6e52d89f193fc558728a3", checked := Try.checked }
namespace Rows
def none {H : Type} : Left H := { results := [], args := [] }

/-- 'whirligiglaw19.DmaSources': WHATEVER THE INPUT: true; the input reads as it did. -/
def dmaSourcesSpec : ChangeSpec := { name := "dmaSources", fn := fun _ => fun
  | [d1, d2] => { results := [.lit (.bool true)], args := [d1, d2] }
  | _ => none }
def dmaSourcesRow : OpenClaim := { program := "ytofcicdomkaigaa", sum := "4cfc62fac6f964310061309f411080ccbed27aa7c3d6e52d89f193fc558728a3", func := "whirligig/whirligiglaw19.DmaSources", spec := "dmaSources", unfollowed := true, recurses := true, apart := false }
def DmaSourcesSaid : Prop := dmaSourcesRow.holds Try.pinned (OpenSpec.ofChange dmaSourcesSpec)

/-- ITS FALSE NEIGHBOUR: 'it returns false'. Refute it at one input. -/
def dmaSourcesWrong : ChangeSpec := { name := "dmaSources", fn := fun _ => fun
  | [d1, d2] => { results := [.lit (.bool false)], args := [d1, d2] }
  | _ => none }
def DmaSourcesWrongFalsely : Prop := dmaSourcesRow.holds Try.pinned (OpenSpec.ofChange dmaSourcesWrong)

/-- 'whirligiglaw19.DmaSteps': WHATEVER THE INPUT: true; the input reads as it did. -/
def dmaStepsSpec : ChangeSpec := { name := "dmaSteps", fn := fun _ => fun
  | [d] => { results := [.lit (.bool true)], args := [d] }
  | _ => none }
def dmaStepsRow : OpenClaim := { program := "ytofcicdomkaigaa", sum := "4cfc62fac6f964310061309f411080ccbed27aa7c3d6e52d89f193fc558728a3", func := "whirligig/whirligiglaw19.DmaSteps", spec := "dmaSteps", unfollowed := true, recurses := true, apart := false }
def DmaStepsSaid : Prop := dmaStepsRow.holds Try.pinned (OpenSpec.ofChange dmaStepsSpec)

/-- ITS FALSE NEIGHBOUR: 'it returns false'. Refute it at one input. -/
def dmaStepsWrong : ChangeSpec := { name := "dmaSteps", fn := fun _ => fun
  | [d] => { results := [.lit (.bool false)], args := [d] }
  | _ => none }
def DmaStepsWrongFalsely : Prop := dmaStepsRow.holds Try.pinned (OpenSpec.ofChange dmaStepsWrong)

/-- 'whirligiglaw19.DmaAgain': WHATEVER THE INPUT: true; the input reads as it did. -/
def dmaAgainSpec : ChangeSpec := { name := "dmaAgain", fn := fun _ => fun
  | [d1, d2, d3] => { results := [.lit (.bool true)], args := [d1, d2, d3] }
  | _ => none }
def dmaAgainRow : OpenClaim := { program := "ytofcicdomkaigaa", sum := "4cfc62fac6f964310061309f411080ccbed27aa7c3d6e52d89f193fc558728a3", func := "whirligig/whirligiglaw19.DmaAgain", spec := "dmaAgain", unfollowed := true, recurses := true, apart := false }
def DmaAgainSaid : Prop := dmaAgainRow.holds Try.pinned (OpenSpec.ofChange dmaAgainSpec)

/-- ITS FALSE NEIGHBOUR: 'it returns false'. Refute it at one input. -/
def dmaAgainWrong : ChangeSpec := { name := "dmaAgain", fn := fun _ => fun
  | [d1, d2, d3] => { results := [.lit (.bool false)], args := [d1, d2, d3] }
  | _ => none }
def DmaAgainWrongFalsely : Prop := dmaAgainRow.holds Try.pinned (OpenSpec.ofChange dmaAgainWrong)

/-- 'whirligiglaw19.DmaWrites': WHATEVER THE INPUT: true; the input reads as it did. -/
def dmaWritesSpec : ChangeSpec := { name := "dmaWrites", fn := fun _ => fun
  | [d1, d2] => { results := [.lit (.bool true)], args := [d1, d2] }
  | _ => none }
def dmaWritesRow : OpenClaim := { program := "ytofcicdomkaigaa", sum := "4cfc62fac6f964310061309f411080ccbed27aa7c3d6e52d89f193fc558728a3", func := "whirligig/whirligiglaw19.DmaWrites", spec := "dmaWrites", unfollowed := true, recurses := true, apart := false }
def DmaWritesSaid : Prop := dmaWritesRow.holds Try.pinned (OpenSpec.ofChange dmaWritesSpec)

/-- ITS FALSE NEIGHBOUR: 'it returns false'. Refute it at one input. -/
def dmaWritesWrong : ChangeSpec := { name := "dmaWrites", fn := fun _ => fun
  | [d1, d2] => { results := [.lit (.bool false)], args := [d1, d2] }
  | _ => none }
def DmaWritesWrongFalsely : Prop := dmaWritesRow.holds Try.pinned (OpenSpec.ofChange dmaWritesWrong)

/-- 'whirligiglaw19.DmaWhole': WHATEVER THE INPUT: true; the input reads as it did. -/
def dmaWholeSpec : ChangeSpec := { name := "dmaWhole", fn := fun _ => fun
  | [d] => { results := [.lit (.bool true)], args := [d] }
  | _ => none }
def dmaWholeRow : OpenClaim := { program := "ytofcicdomkaigaa", sum := "4cfc62fac6f964310061309f411080ccbed27aa7c3d6e52d89f193fc558728a3", func := "whirligig/whirligiglaw19.DmaWhole", spec := "dmaWhole", unfollowed := true, recurses := true, apart := false }
def DmaWholeSaid : Prop := dmaWholeRow.holds Try.pinned (OpenSpec.ofChange dmaWholeSpec)

/-- ITS FALSE NEIGHBOUR: 'it returns false'. Refute it at one input. -/
def dmaWholeWrong : ChangeSpec := { name := "dmaWhole", fn := fun _ => fun
  | [d] => { results := [.lit (.bool false)], args := [d] }
  | _ => none }
def DmaWholeWrongFalsely : Prop := dmaWholeRow.holds Try.pinned (OpenSpec.ofChange dmaWholeWrong)

/- THE SECOND FORM. 'bulk': how many values and letters a reading holds, each counted each time it is reached (what is shared counts as often as it is met; a slice's spare places count too). A statement '..UptoSaid' is the law's where the arguments, and the package variables that the reading takes, are together of bulk at most 1048576: NARROWER than '..Said'. Prove '..Said' where nothing that the law and all that it calls make is longer than what came in: it says more and counts as full. Else prove '..UptoSaid'. A law counts once. -/
mutual
def uptoBulk {H : Type} : DataW H → Nat
  | .lit (.string bytes) => bytes.length + 1
  | .lit _ => 1
  | .nil => 1
  | .ptr d => uptoBulk d + 1
  | .slice elems spare => uptoBulkAll elems + uptoBulkAll spare + 1
  | .agg parts => uptoBulkAll parts + 1
  | .iface _ d => uptoBulk d + 1
  | .map entries => uptoBulkEntries entries + 1
  | .held _ => 1
def uptoBulkAll {H : Type} : List (DataW H) → Nat
  | [] => 0
  | d :: r => uptoBulk d + uptoBulkAll r
def uptoBulkEntries {H : Type} : List (Lit × DataW H) → Nat
  | [] => 0
  | x :: r => uptoBulkEntry x + uptoBulkEntries r
def uptoBulkEntry {H : Type} : Lit × DataW H → Nat
  | (.string bytes, d) => bytes.length + uptoBulk d + 1
  | (_, d) => uptoBulk d + 1
 end
def uptoSmall : (H : Type) → List (DataW H) → Bool := fun _ ds => decide (uptoBulkAll ds ≤ 1048576)
def OpenSpec.upto (s : _root_.Go.ChangeSpec) : _root_.Go.OpenSpec := { _root_.Go.OpenSpec.ofChange s with cond := some uptoSmall }

/-- 'whirligiglaw19.DmaSources', WHERE WHAT IT READS IS OF BULK AT MOST 1048576: true; the input reads as it did. -/
def dmaSourcesUptoRow : OpenClaim := { program := "ytofcicdomkaigaa", sum := "4cfc62fac6f964310061309f411080ccbed27aa7c3d6e52d89f193fc558728a3", func := "whirligig/whirligiglaw19.DmaSources", spec := "dmaSources", unfollowed := true, recurses := true, apart := false, narrowed := true }
def DmaSourcesUptoSaid : Prop := dmaSourcesUptoRow.holds Try.pinned (OpenSpec.upto dmaSourcesSpec)

/-- 'whirligiglaw19.DmaSteps', WHERE WHAT IT READS IS OF BULK AT MOST 1048576: true; the input reads as it did. -/
def dmaStepsUptoRow : OpenClaim := { program := "ytofcicdomkaigaa", sum := "4cfc62fac6f964310061309f411080ccbed27aa7c3d6e52d89f193fc558728a3", func := "whirligig/whirligiglaw19.DmaSteps", spec := "dmaSteps", unfollowed := true, recurses := true, apart := false, narrowed := true }
def DmaStepsUptoSaid : Prop := dmaStepsUptoRow.holds Try.pinned (OpenSpec.upto dmaStepsSpec)

/-- 'whirligiglaw19.DmaAgain', WHERE WHAT IT READS IS OF BULK AT MOST 1048576: true; the input reads as it did. -/
def dmaAgainUptoRow : OpenClaim := { program := "ytofcicdomkaigaa", sum := "4cfc62fac6f964310061309f411080ccbed27aa7c3d6e52d89f193fc558728a3", func := "whirligig/whirligiglaw19.DmaAgain", spec := "dmaAgain", unfollowed := true, recurses := true, apart := false, narrowed := true }
def DmaAgainUptoSaid : Prop := dmaAgainUptoRow.holds Try.pinned (OpenSpec.upto dmaAgainSpec)

/-- 'whirligiglaw19.DmaWrites', WHERE WHAT IT READS IS OF BULK AT MOST 1048576: true; the input reads as it did. -/
def dmaWritesUptoRow : OpenClaim := { program := "ytofcicdomkaigaa", sum := "4cfc62fac6f964310061309f411080ccbed27aa7c3d6e52d89f193fc558728a3", func := "whirligig/whirligiglaw19.DmaWrites", spec := "dmaWrites", unfollowed := true, recurses := true, apart := false, narrowed := true }
def DmaWritesUptoSaid : Prop := dmaWritesUptoRow.holds Try.pinned (OpenSpec.upto dmaWritesSpec)

/-- 'whirligiglaw19.DmaWhole', WHERE WHAT IT READS IS OF BULK AT MOST 1048576: true; the input reads as it did. -/
def dmaWholeUptoRow : OpenClaim := { program := "ytofcicdomkaigaa", sum := "4cfc62fac6f964310061309f411080ccbed27aa7c3d6e52d89f193fc558728a3", func := "whirligig/whirligiglaw19.DmaWhole", spec := "dmaWhole", unfollowed := true, recurses := true, apart := false, narrowed := true }
def DmaWholeUptoSaid : Prop := dmaWholeUptoRow.holds Try.pinned (OpenSpec.upto dmaWholeSpec)

end Rows
end Go.Proofs.Ytofcicdomkaigaa
