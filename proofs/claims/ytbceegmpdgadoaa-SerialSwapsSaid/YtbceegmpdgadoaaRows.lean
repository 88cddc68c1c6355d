/-
  No cell of these rows narrows 'for every input' (looked for: loops, veiled, ifaces, maps, wideKeys, modest, calm, conditions, laid).
  DERIVED. THE GIVEN ROWS OF THIS SEAT. 6 by the template 'for every input the law returns true; each argument reads behind the call as it read before'; 0 by the template 'total and deterministic' (their statements: YtbceegmpdgadoaaTotals.lean).
  GIVEN WITH THE SEED: the statements are not yours to turn. If you find one false, say at which input.
  Laid BY PROGRAM, IN A SANDBOX (cutbox-rows.mjs): the forced cells as the released guide's own fill.sh prints them over the translation cd6731d487b97065… (all of the seat's roots in one cut). By AI agents, Wed Nov 11 2026. No macro, syntax, notation, axiom, sorry.
-/
import Derived.Test.YtbceegmpdgadoaaChecked
import GoSem.Claim
import GoSem.ClaimJoined
import GoSem.ClaimMapViews
import Derived.JoinedTies
import Derived.KernelRfl
namespace Go.Proofs.Ytbceegmpdgadoaa
/- THE CELL 'sum', in the pinned program and in every row, IS THE sha256 OF THE DUMP (.gsa) THAT YtbceegmpdgadoaaProg.lean LOADS. Nothing in Lean hashes anything: it is a label: what it is worth is what the hold of that sum in a sandbox is worth. -/
noncomputable def Try.pinned : Pinned := { name := "ytbceegmpdgadoaa", sum := "cd6731d487b97065fe1bd8b8b414bd8caec6c7ddaf35707d4571d446089bea3c", checked := Try.checked }
namespace Rows
def none {H : Type} : Left H := { results := [], args := [] }

/-- 'whirligiglaw12.SerialSteps': WHATEVER THE INPUT: true; the input reads as it did. -/
def serialStepsSpec : ChangeSpec := { name := "serialSteps", fn := fun _ => fun
  | [d1, d2, d3] => { results := [.lit (.bool true)], args := [d1, d2, d3] }
  | _ => none }
def serialStepsRow : OpenClaim := { program := "ytbceegmpdgadoaa", sum := "cd6731d487b97065fe1bd8b8b414bd8caec6c7ddaf35707d4571d446089bea3c", func := "whirligig/whirligiglaw12.SerialSteps", spec := "serialSteps", apart := false }
def SerialStepsSaid : Prop := serialStepsRow.holds Try.pinned (OpenSpec.ofChange serialStepsSpec)

/-- ITS FALSE NEIGHBOUR: 'it returns false'. Refute it at one input. -/
def serialStepsWrong : ChangeSpec := { name := "serialSteps", fn := fun _ => fun
  | [d1, d2, d3] => { results := [.lit (.bool false)], args := [d1, d2, d3] }
  | _ => none }
def SerialStepsWrongFalsely : Prop := serialStepsRow.holds Try.pinned (OpenSpec.ofChange serialStepsWrong)

/-- 'whirligiglaw12.SerialWrites': WHATEVER THE INPUT: true; the input reads as it did. -/
def serialWritesSpec : ChangeSpec := { name := "serialWrites", fn := fun _ => fun
  | [d1, d2, d3] => { results := [.lit (.bool true)], args := [d1, d2, d3] }
  | _ => none }
def serialWritesRow : OpenClaim := { program := "ytbceegmpdgadoaa", sum := "cd6731d487b97065fe1bd8b8b414bd8caec6c7ddaf35707d4571d446089bea3c", func := "whirligig/whirligiglaw12.SerialWrites", spec := "serialWrites", apart := false }
def SerialWritesSaid : Prop := serialWritesRow.holds Try.pinned (OpenSpec.ofChange serialWritesSpec)

/-- ITS FALSE NEIGHBOUR: 'it returns false'. Refute it at one input. -/
def serialWritesWrong : ChangeSpec := { name := "serialWrites", fn := fun _ => fun
  | [d1, d2, d3] => { results := [.lit (.bool false)], args := [d1, d2, d3] }
  | _ => none }
def SerialWritesWrongFalsely : Prop := serialWritesRow.holds Try.pinned (OpenSpec.ofChange serialWritesWrong)

/-- 'whirligiglaw12.SerialIdle': WHATEVER THE INPUT: true; the input reads as it did. -/
def serialIdleSpec : ChangeSpec := { name := "serialIdle", fn := fun _ => fun
  | [d1, d2, d3] => { results := [.lit (.bool true)], args := [d1, d2, d3] }
  | _ => none }
def serialIdleRow : OpenClaim := { program := "ytbceegmpdgadoaa", sum := "cd6731d487b97065fe1bd8b8b414bd8caec6c7ddaf35707d4571d446089bea3c", func := "whirligig/whirligiglaw12.SerialIdle", spec := "serialIdle", apart := false }
def SerialIdleSaid : Prop := serialIdleRow.holds Try.pinned (OpenSpec.ofChange serialIdleSpec)

/-- ITS FALSE NEIGHBOUR: 'it returns false'. Refute it at one input. -/
def serialIdleWrong : ChangeSpec := { name := "serialIdle", fn := fun _ => fun
  | [d1, d2, d3] => { results := [.lit (.bool false)], args := [d1, d2, d3] }
  | _ => none }
def SerialIdleWrongFalsely : Prop := serialIdleRow.holds Try.pinned (OpenSpec.ofChange serialIdleWrong)

/-- 'whirligiglaw12.SerialSwaps': WHATEVER THE INPUT: true; the input reads as it did. -/
def serialSwapsSpec : ChangeSpec := { name := "serialSwaps", fn := fun _ => fun
  | [d1, d2] => { results := [.lit (.bool true)], args := [d1, d2] }
  | _ => none }
def serialSwapsRow : OpenClaim := { program := "ytbceegmpdgadoaa", sum := "cd6731d487b97065fe1bd8b8b414bd8caec6c7ddaf35707d4571d446089bea3c", func := "whirligig/whirligiglaw12.SerialSwaps", spec := "serialSwaps", apart := false }
def SerialSwapsSaid : Prop := serialSwapsRow.holds Try.pinned (OpenSpec.ofChange serialSwapsSpec)

/-- ITS FALSE NEIGHBOUR: 'it returns false'. Refute it at one input. -/
def serialSwapsWrong : ChangeSpec := { name := "serialSwaps", fn := fun _ => fun
  | [d1, d2] => { results := [.lit (.bool false)], args := [d1, d2] }
  | _ => none }
def SerialSwapsWrongFalsely : Prop := serialSwapsRow.holds Try.pinned (OpenSpec.ofChange serialSwapsWrong)

/-- 'whirligiglaw12.SerialReads': WHATEVER THE INPUT: true; the input reads as it did. -/
def serialReadsSpec : ChangeSpec := { name := "serialReads", fn := fun _ => fun
  | [d1, d2] => { results := [.lit (.bool true)], args := [d1, d2] }
  | _ => none }
def serialReadsRow : OpenClaim := { program := "ytbceegmpdgadoaa", sum := "cd6731d487b97065fe1bd8b8b414bd8caec6c7ddaf35707d4571d446089bea3c", func := "whirligig/whirligiglaw12.SerialReads", spec := "serialReads", apart := false }
def SerialReadsSaid : Prop := serialReadsRow.holds Try.pinned (OpenSpec.ofChange serialReadsSpec)

/-- ITS FALSE NEIGHBOUR: 'it returns false'. Refute it at one input. -/
def serialReadsWrong : ChangeSpec := { name := "serialReads", fn := fun _ => fun
  | [d1, d2] => { results := [.lit (.bool false)], args := [d1, d2] }
  | _ => none }
def SerialReadsWrongFalsely : Prop := serialReadsRow.holds Try.pinned (OpenSpec.ofChange serialReadsWrong)

/-- 'whirligiglaw12.SerialEight': WHATEVER THE INPUT: true; the input reads as it did. -/
def serialEightSpec : ChangeSpec := { name := "serialEight", fn := fun _ => fun
  | [d1, d2, d3] => { results := [.lit (.bool true)], args := [d1, d2, d3] }
  | _ => none }
def serialEightRow : OpenClaim := { program := "ytbceegmpdgadoaa", sum := "cd6731d487b97065fe1bd8b8b414bd8caec6c7ddaf35707d4571d446089bea3c", func := "whirligig/whirligiglaw12.SerialEight", spec := "serialEight", apart := false }
def SerialEightSaid : Prop := serialEightRow.holds Try.pinned (OpenSpec.ofChange serialEightSpec)

/-- ITS FALSE NEIGHBOUR: 'it returns false'. Refute it at one input. -/
def serialEightWrong : ChangeSpec := { name := "serialEight", fn := fun _ => fun
  | [d1, d2, d3] => { results := [.lit (.bool false)], args := [d1, d2, d3] }
  | _ => none }
def SerialEightWrongFalsely : Prop := serialEightRow.holds Try.pinned (OpenSpec.ofChange serialEightWrong)

/- THE SECOND FORM. 'bulk': how many values and letters a reading holds, each counted each time it is reached (what is shared counts as often as it is met; a slice's spare places count too). A statement '..UptoSaid' is the law's where the arguments, and the package variables that the reading takes, are together of bulk at most 1048576: NARROWER than '..Said'. Prove '..Said' where nothing that the law and all that it calls make is longer than what came in: it says more and counts as full. Else prove '..UptoSaid'. A law counts once. -/
mutual
def uptoBulk {H : Type} : DataW H → Nat
  | .lit (.string bytes) => bytes.length + 1
  | .lit _ => 1
  | .nil => 1
  | .ptr d => uptoBulk d + 1
  | .slice elems spare => uptoBulkAll elems + uptoBulkAll spare + 1
  | .agg parts => uptoBulkAll parts + 1
  | .iface _ d => uptoBulk d + 1
  | .map entries => uptoBulkEntries entries + 1
  | .held _ => 1
def uptoBulkAll {H : Type} : List (DataW H) → Nat
  | [] => 0
  | d :: r => uptoBulk d + uptoBulkAll r
def uptoBulkEntries {H : Type} : List (Lit × DataW H) → Nat
  | [] => 0
  | x :: r => uptoBulkEntry x + uptoBulkEntries r
def uptoBulkEntry {H : Type} : Lit × DataW H → Nat
  | (.string bytes, d) => bytes.length + uptoBulk d + 1
  | (_, d) => uptoBulk d + 1
 end
def uptoSmall : (H : Type) → List (DataW H) → Bool := fun _ ds => decide (uptoBulkAll ds ≤ 1048576)
def OpenSpec.upto (s : _root_.Go.ChangeSpec) : _root_.Go.OpenSpec := { _root_.Go.OpenSpec.ofChange s with cond := some uptoSmall }

/-- 'whirligiglaw12.SerialSteps', WHERE WHAT IT READS IS OF BULK AT MOST 1048576: true; the input reads as it did. -/
def serialStepsUptoRow : OpenClaim := { program := "ytbceegmpdgadoaa", sum := "cd6731d487b97065fe1bd8b8b414bd8caec6c7ddaf35707d4571d446089bea3c", func := "whirligig/whirligiglaw12.SerialSteps", spec := "serialSteps", apart := false, narrowed := true }
def SerialStepsUptoSaid : Prop := serialStepsUptoRow.holds Try.pinned (OpenSpec.upto serialStepsSpec)

/-- 'whirligiglaw12.SerialWrites', WHERE WHAT IT READS IS OF BULK AT MOST 1048576: true; the input reads as it did. -/
def serialWritesUptoRow : OpenClaim := { program := "ytbceegmpdgadoaa", sum := "cd6731d487b97065fe1bd8b8b414bd8caec6c7ddaf35707d4571d446089bea3c", func := "whirligig/whirligiglaw12.SerialWrites", spec := "serialWrites", apart := false, narrowed := true }
def SerialWritesUptoSaid : Prop := serialWritesUptoRow.holds Try.pinned (OpenSpec.upto serialWritesSpec)

/-- 'whirligiglaw12.SerialIdle', WHERE WHAT IT READS IS OF BULK AT MOST 1048576: true; the input reads as it did. -/
def serialIdleUptoRow : OpenClaim := { program := "ytbceegmpdgadoaa", sum := "cd6731d487b97065fe1bd8b8b414bd8caec6c7ddaf35707d4571d446089bea3c", func := "whirligig/whirligiglaw12.SerialIdle", spec := "serialIdle", apart := false, narrowed := true }
def SerialIdleUptoSaid : Prop := serialIdleUptoRow.holds Try.pinned (OpenSpec.upto serialIdleSpec)

/-- 'whirligiglaw12.SerialSwaps', WHERE WHAT IT READS IS OF BULK AT MOST 1048576: true; the input reads as it did. -/
def serialSwapsUptoRow : OpenClaim := { program := "ytbceegmpdgadoaa", sum := "cd6731d487b97065fe1bd8b8b414bd8caec6c7ddaf35707d4571d446089bea3c", func := "whirligig/whirligiglaw12.SerialSwaps", spec := "serialSwaps", apart := false, narrowed := true }
def SerialSwapsUptoSaid : Prop := serialSwapsUptoRow.holds Try.pinned (OpenSpec.upto serialSwapsSpec)

/-- 'whirligiglaw12.SerialReads', WHERE WHAT IT READS IS OF BULK AT MOST 1048576: true; the input reads as it did. -/
def serialReadsUptoRow : OpenClaim := { program := "ytbceegmpdgadoaa", sum := "cd6731d487b97065fe1bd8b8b414bd8caec6c7ddaf35707d4571d446089bea3c", func := "whirligig/whirligiglaw12.SerialReads", spec := "serialReads", apart := false, narrowed := true }
def SerialReadsUptoSaid : Prop := serialReadsUptoRow.holds Try.pinned (OpenSpec.upto serialReadsSpec)

/-- 'whirligiglaw12.SerialEight', WHERE WHAT IT READS IS OF BULK AT MOST 1048576: true; the input reads as it did. -/
def serialEightUptoRow : OpenClaim := { program := "ytbceegmpdgadoaa", sum := "cd6731d487b97065fe1bd8b8b414bd8caec6c7ddaf35707d4571d446089bea3c", func := "whirligig/whirligiglaw12.SerialEight", spec := "serialEight", apart := false, narrowed := true }
def SerialEightUptoSaid : Prop := serialEightUptoRow.holds Try.pinned (OpenSpec.upto serialEightSpec)

end Rows
end Go.Proofs.Ytbceegmpdgadoaa
