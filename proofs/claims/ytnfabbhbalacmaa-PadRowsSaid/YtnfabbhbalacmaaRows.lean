/-
  No cell of these rows narrows 'for every input' (looked for: loops, veiled, ifaces, maps, wideKeys, modest, calm, conditions, laid).
  DERIVED. THE GIVEN ROWS OF THIS SEAT. 5 by the template 'for every input the law returns true; each argument reads behind the call as it read before'; 0 by the template 'total and deterministic' (their statements: YtnfabbhbalacmaaTotals.lean).
  GIVEN WITH THE SEED: the statements are not yours to turn. If you find one false, say at which input.
  Laid BY PROGRAM, IN A SANDBOX (cutbox-rows.mjs): the forced cells as the released guide's own fill.sh prints them over the translation 4d227d8e24401327… (all of the seat's roots in one cut). By AI agents, Wed Nov 11 2026. No macro, syntax, notation, axiom, sorry.
-/
import Derived.Test.YtnfabbhbalacmaaChecked
import GoSem.Claim
import GoSem.ClaimJoined
import GoSem.ClaimMapViews
import Derived.JoinedTies
import Derived.KernelRfl
namespace Go.Proofs.Ytnfabbhbalacmaa
/- THE CELL 'sum', in the pinned program and in every row, IS THE sha256 OF THE DUMP (.gsa) THAT YtnfabbhbalacmaaProg.lean LOADS. Nothing in Lean hashes anything: it is a label: what it is worth is what the hold of that sum in a sandbox is worth. -/
noncomputable def Try.pinned : Pinned := { name := "ytnfabbhbalacmaa", sum := "4d227d8e244013276bc4e0883700837fe21704f26f83be677f6e2cf29bf41387", checked := Try.checked }
namespace Rows
def none {H : Type} : Left H := { results := [], args := [] }

/-- 'whirligiglaw13.PadLines': WHATEVER THE INPUT: true; the input reads as it did. -/
def padLinesSpec : ChangeSpec := { name := "padLines", fn := fun _ => fun
  | [d1, d2] => { results := [.lit (.bool true)], args := [d1, d2] }
  | _ => none }
def padLinesRow : OpenClaim := { program := "ytnfabbhbalacmaa", sum := "4d227d8e244013276bc4e0883700837fe21704f26f83be677f6e2cf29bf41387", func := "whirligig/whirligiglaw13.PadLines", spec := "padLines", unfollowed := true, recurses := true, apart := false }
def PadLinesSaid : Prop := padLinesRow.holds Try.pinned (OpenSpec.ofChange padLinesSpec)

/-- ITS FALSE NEIGHBOUR: 'it returns false'. Refute it at one input. -/
def padLinesWrong : ChangeSpec := { name := "padLines", fn := fun _ => fun
  | [d1, d2] => { results := [.lit (.bool false)], args := [d1, d2] }
  | _ => none }
def PadLinesWrongFalsely : Prop := padLinesRow.holds Try.pinned (OpenSpec.ofChange padLinesWrong)

/-- 'whirligiglaw13.PadSteps': WHATEVER THE INPUT: true; the input reads as it did. -/
def padStepsSpec : ChangeSpec := { name := "padSteps", fn := fun _ => fun
  | [d1, d2] => { results := [.lit (.bool true)], args := [d1, d2] }
  | _ => none }
def padStepsRow : OpenClaim := { program := "ytnfabbhbalacmaa", sum := "4d227d8e244013276bc4e0883700837fe21704f26f83be677f6e2cf29bf41387", func := "whirligig/whirligiglaw13.PadSteps", spec := "padSteps", unfollowed := true, recurses := true, apart := false }
def PadStepsSaid : Prop := padStepsRow.holds Try.pinned (OpenSpec.ofChange padStepsSpec)

/-- ITS FALSE NEIGHBOUR: 'it returns false'. Refute it at one input. -/
def padStepsWrong : ChangeSpec := { name := "padSteps", fn := fun _ => fun
  | [d1, d2] => { results := [.lit (.bool false)], args := [d1, d2] }
  | _ => none }
def PadStepsWrongFalsely : Prop := padStepsRow.holds Try.pinned (OpenSpec.ofChange padStepsWrong)

/-- 'whirligiglaw13.PadHeld': WHATEVER THE INPUT: true; the input reads as it did. -/
def padHeldSpec : ChangeSpec := { name := "padHeld", fn := fun _ => fun
  | [d1, d2, d3] => { results := [.lit (.bool true)], args := [d1, d2, d3] }
  | _ => none }
def padHeldRow : OpenClaim := { program := "ytnfabbhbalacmaa", sum := "4d227d8e244013276bc4e0883700837fe21704f26f83be677f6e2cf29bf41387", func := "whirligig/whirligiglaw13.PadHeld", spec := "padHeld", unfollowed := true, recurses := true, apart := false }
def PadHeldSaid : Prop := padHeldRow.holds Try.pinned (OpenSpec.ofChange padHeldSpec)

/-- ITS FALSE NEIGHBOUR: 'it returns false'. Refute it at one input. -/
def padHeldWrong : ChangeSpec := { name := "padHeld", fn := fun _ => fun
  | [d1, d2, d3] => { results := [.lit (.bool false)], args := [d1, d2, d3] }
  | _ => none }
def PadHeldWrongFalsely : Prop := padHeldRow.holds Try.pinned (OpenSpec.ofChange padHeldWrong)

/-- 'whirligiglaw13.PadReads': WHATEVER THE INPUT: true; the input reads as it did. -/
def padReadsSpec : ChangeSpec := { name := "padReads", fn := fun _ => fun
  | [d1, d2, d3] => { results := [.lit (.bool true)], args := [d1, d2, d3] }
  | _ => none }
def padReadsRow : OpenClaim := { program := "ytnfabbhbalacmaa", sum := "4d227d8e244013276bc4e0883700837fe21704f26f83be677f6e2cf29bf41387", func := "whirligig/whirligiglaw13.PadReads", spec := "padReads", unfollowed := true, recurses := true, apart := false }
def PadReadsSaid : Prop := padReadsRow.holds Try.pinned (OpenSpec.ofChange padReadsSpec)

/-- ITS FALSE NEIGHBOUR: 'it returns false'. Refute it at one input. -/
def padReadsWrong : ChangeSpec := { name := "padReads", fn := fun _ => fun
  | [d1, d2, d3] => { results := [.lit (.bool false)], args := [d1, d2, d3] }
  | _ => none }
def PadReadsWrongFalsely : Prop := padReadsRow.holds Try.pinned (OpenSpec.ofChange padReadsWrong)

/-- 'whirligiglaw13.PadRows': WHATEVER THE INPUT: true; the input reads as it did. -/
def padRowsSpec : ChangeSpec := { name := "padRows", fn := fun _ => fun
  | [d] => { results := [.lit (.bool true)], args := [d] }
  | _ => none }
def padRowsRow : OpenClaim := { program := "ytnfabbhbalacmaa", sum := "4d227d8e244013276bc4e0883700837fe21704f26f83be677f6e2cf29bf41387", func := "whirligig/whirligiglaw13.PadRows", spec := "padRows", unfollowed := true, recurses := true, apart := false }
def PadRowsSaid : Prop := padRowsRow.holds Try.pinned (OpenSpec.ofChange padRowsSpec)

/-- ITS FALSE NEIGHBOUR: 'it returns false'. Refute it at one input. -/
def padRowsWrong : ChangeSpec := { name := "padRows", fn := fun _ => fun
  | [d] => { results := [.lit (.bool false)], args := [d] }
  | _ => none }
def PadRowsWrongFalsely : Prop := padRowsRow.holds Try.pinned (OpenSpec.ofChange padRowsWrong)

/- THE SECOND FORM. 'bulk': how many values and letters a reading holds, each counted each time it is reached (what is shared counts as often as it is met; a slice's spare places count too). A statement '..UptoSaid' is the law's where the arguments, and the package variables that the reading takes, are together of bulk at most 1048576: NARROWER than '..Said'. Prove '..Said' where nothing that the law and all that it calls make is longer than what came in: it says more and counts as full. Else prove '..UptoSaid'. A law counts once. -/
mutual
def uptoBulk {H : Type} : DataW H → Nat
  | .lit (.string bytes) => bytes.length + 1
  | .lit _ => 1
  | .nil => 1
  | .ptr d => uptoBulk d + 1
  | .slice elems spare => uptoBulkAll elems + uptoBulkAll spare + 1
  | .agg parts => uptoBulkAll parts + 1
  | .iface _ d => uptoBulk d + 1
  | .map entries => uptoBulkEntries entries + 1
  | .held _ => 1
def uptoBulkAll {H : Type} : List (DataW H) → Nat
  | [] => 0
  | d :: r => uptoBulk d + uptoBulkAll r
def uptoBulkEntries {H : Type} : List (Lit × DataW H) → Nat
  | [] => 0
  | x :: r => uptoBulkEntry x + uptoBulkEntries r
def uptoBulkEntry {H : Type} : Lit × DataW H → Nat
  | (.string bytes, d) => bytes.length + uptoBulk d + 1
  | (_, d) => uptoBulk d + 1
 end
def uptoSmall : (H : Type) → List (DataW H) → Bool := fun _ ds => decide (uptoBulkAll ds ≤ 1048576)
def OpenSpec.upto (s : _root_.Go.ChangeSpec) : _root_.Go.OpenSpec := { _root_.Go.OpenSpec.ofChange s with cond := some uptoSmall }

/-- 'whirligiglaw13.PadLines', WHERE WHAT IT READS IS OF BULK AT MOST 1048576: true; the input reads as it did. -/
def padLinesUptoRow : OpenClaim := { program := "ytnfabbhbalacmaa", sum := "4d227d8e244013276bc4e0883700837fe21704f26f83be677f6e2cf29bf41387", func := "whirligig/whirligiglaw13.PadLines", spec := "padLines", unfollowed := true, recurses := true, apart := false, narrowed := true }
def PadLinesUptoSaid : Prop := padLinesUptoRow.holds Try.pinned (OpenSpec.upto padLinesSpec)

/-- 'whirligiglaw13.PadSteps', WHERE WHAT IT READS IS OF BULK AT MOST 1048576: true; the input reads as it did. -/
def padStepsUptoRow : OpenClaim := { program := "ytnfabbhbalacmaa", sum := "4d227d8e244013276bc4e0883700837fe21704f26f83be677f6e2cf29bf41387", func := "whirligig/whirligiglaw13.PadSteps", spec := "padSteps", unfollowed := true, recurses := true, apart := false, narrowed := true }
def PadStepsUptoSaid : Prop := padStepsUptoRow.holds Try.pinned (OpenSpec.upto padStepsSpec)

/-- 'whirligiglaw13.PadHeld', WHERE WHAT IT READS IS OF BULK AT MOST 1048576: true; the input reads as it did. -/
def padHeldUptoRow : OpenClaim := { program := "ytnfabbhbalacmaa", sum := "4d227d8e244013276bc4e0883700837fe21704f26f83be677f6e2cf29bf41387", func := "whirligig/whirligiglaw13.PadHeld", spec := "padHeld", unfollowed := true, recurses := true, apart := false, narrowed := true }
def PadHeldUptoSaid : Prop := padHeldUptoRow.holds Try.pinned (OpenSpec.upto padHeldSpec)

/-- 'whirligiglaw13.PadReads', WHERE WHAT IT READS IS OF BULK AT MOST 1048576: true; the input reads as it did. -/
def padReadsUptoRow : OpenClaim := { program := "ytnfabbhbalacmaa", sum := "4d227d8e244013276bc4e0883700837fe21704f26f83be677f6e2cf29bf41387", func := "whirligig/whirligiglaw13.PadReads", spec := "padReads", unfollowed := true, recurses := true, apart := false, narrowed := true }
def PadReadsUptoSaid : Prop := padReadsUptoRow.holds Try.pinned (OpenSpec.upto padReadsSpec)

/-- 'whirligiglaw13.PadRows', WHERE WHAT IT READS IS OF BULK AT MOST 1048576: true; the input reads as it did. -/
def padRowsUptoRow : OpenClaim := { program := "ytnfabbhbalacmaa", sum := "4d227d8e244013276bc4e0883700837fe21704f26f83be677f6e2cf29bf41387", func := "whirligig/whirligiglaw13.PadRows", spec := "padRows", unfollowed := true, recurses := true, apart := false, narrowed := true }
def PadRowsUptoSaid : Prop := padRowsUptoRow.holds Try.pinned (OpenSpec.upto padRowsSpec)

end Rows
end Go.Proofs.Ytnfabbhbalacmaa
