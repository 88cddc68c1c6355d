/-
  No cell of these rows narrows 'for every input' (looked for: loops, veiled, ifaces, maps, wideKeys, modest, calm, conditions, laid).
  DERIVED. THE GIVEN ROWS OF THIS SEAT. 7 by the template 'for every input the law returns true; each argument reads behind the call as it read before'; 0 by the template 'total and deterministic' (their statements: YtlfcpmiajcimfaaTotals.lean).
  GIVEN WITH THE SEED: the statements are not yours to turn. If you find one false, say at which input.
  Laid BY PROGRAM, IN A SANDBOX (cutbox-rows.mjs): the forced cells as the released guide's own fill.sh prints them over the translation 77b0b997b402cb4e… (all of the seat's roots in one cut). By AI agents, Wed Nov 11 2026. No macro, syntax, notation, axiom, sorry.
-/
import Derived.Test.YtlfcpmiajcimfaaChecked
import GoSem.Claim
import GoSem.ClaimJoined
import GoSem.ClaimMapViews
import Derived.JoinedTies
import Derived.KernelRfl
namespace Go.Proofs.Ytlfcpmiajcimfaa
/- THE CELL 'sum', in the pinned program and in every row, IS THE sha256 OF THE DUMP (.gsa) THAT YtlfcpmiajcimfaaProg.lean LOADS. Nothing in Lean hashes anything: it is a label: what it is worth is what the hold of that sum in a sandbox is worth. -/
noncomputable def Try.pinned : Pinned := { name := "ytlfcpmiajcimfaa", sum := "77b0b997b402cb4e65cfec9fc2c4402d21970135129b91dc560d0572ca327220", checked := Try.checked }
namespace Rows
def none {H : Type} : Left H := { results := [], args := [] }

/-- 'whirligiglaw20.BusRegions': WHATEVER THE INPUT: true; the input reads as it did. -/
def busRegionsSpec : ChangeSpec := { name := "busRegions", fn := fun _ => fun
  | [d] => { results := [.lit (.bool true)], args := [d] }
  | _ => none }
def busRegionsRow : OpenClaim := { program := "ytlfcpmiajcimfaa", sum := "77b0b997b402cb4e65cfec9fc2c4402d21970135129b91dc560d0572ca327220", func := "whirligig/whirligiglaw20.BusRegions", spec := "busRegions", apart := false }
def BusRegionsSaid : Prop := busRegionsRow.holds Try.pinned (OpenSpec.ofChange busRegionsSpec)

/-- ITS FALSE NEIGHBOUR: 'it returns false'. Refute it at one input. -/
def busRegionsWrong : ChangeSpec := { name := "busRegions", fn := fun _ => fun
  | [d] => { results := [.lit (.bool false)], args := [d] }
  | _ => none }
def BusRegionsWrongFalsely : Prop := busRegionsRow.holds Try.pinned (OpenSpec.ofChange busRegionsWrong)

/-- 'whirligiglaw20.BusMeets': WHATEVER THE INPUT: true; the input reads as it did. -/
def busMeetsSpec : ChangeSpec := { name := "busMeets", fn := fun _ => fun
  | [d1, d2, d3] => { results := [.lit (.bool true)], args := [d1, d2, d3] }
  | _ => none }
def busMeetsRow : OpenClaim := { program := "ytlfcpmiajcimfaa", sum := "77b0b997b402cb4e65cfec9fc2c4402d21970135129b91dc560d0572ca327220", func := "whirligig/whirligiglaw20.BusMeets", spec := "busMeets", apart := false }
def BusMeetsSaid : Prop := busMeetsRow.holds Try.pinned (OpenSpec.ofChange busMeetsSpec)

/-- ITS FALSE NEIGHBOUR: 'it returns false'. Refute it at one input. -/
def busMeetsWrong : ChangeSpec := { name := "busMeets", fn := fun _ => fun
  | [d1, d2, d3] => { results := [.lit (.bool false)], args := [d1, d2, d3] }
  | _ => none }
def BusMeetsWrongFalsely : Prop := busMeetsRow.holds Try.pinned (OpenSpec.ofChange busMeetsWrong)

/-- 'whirligiglaw20.BusBack': WHATEVER THE INPUT: true; the input reads as it did. -/
def busBackSpec : ChangeSpec := { name := "busBack", fn := fun _ => fun
  | [d1, d2, d3, d4] => { results := [.lit (.bool true)], args := [d1, d2, d3, d4] }
  | _ => none }
def busBackRow : OpenClaim := { program := "ytlfcpmiajcimfaa", sum := "77b0b997b402cb4e65cfec9fc2c4402d21970135129b91dc560d0572ca327220", func := "whirligig/whirligiglaw20.BusBack", spec := "busBack", apart := false }
def BusBackSaid : Prop := busBackRow.holds Try.pinned (OpenSpec.ofChange busBackSpec)

/-- ITS FALSE NEIGHBOUR: 'it returns false'. Refute it at one input. -/
def busBackWrong : ChangeSpec := { name := "busBack", fn := fun _ => fun
  | [d1, d2, d3, d4] => { results := [.lit (.bool false)], args := [d1, d2, d3, d4] }
  | _ => none }
def BusBackWrongFalsely : Prop := busBackRow.holds Try.pinned (OpenSpec.ofChange busBackWrong)

/-- 'whirligiglaw20.BusPlaces': WHATEVER THE INPUT: true; the input reads as it did. -/
def busPlacesSpec : ChangeSpec := { name := "busPlaces", fn := fun _ => fun
  | [d] => { results := [.lit (.bool true)], args := [d] }
  | _ => none }
def busPlacesRow : OpenClaim := { program := "ytlfcpmiajcimfaa", sum := "77b0b997b402cb4e65cfec9fc2c4402d21970135129b91dc560d0572ca327220", func := "whirligig/whirligiglaw20.BusPlaces", spec := "busPlaces", apart := false }
def BusPlacesSaid : Prop := busPlacesRow.holds Try.pinned (OpenSpec.ofChange busPlacesSpec)

/-- ITS FALSE NEIGHBOUR: 'it returns false'. Refute it at one input. -/
def busPlacesWrong : ChangeSpec := { name := "busPlaces", fn := fun _ => fun
  | [d] => { results := [.lit (.bool false)], args := [d] }
  | _ => none }
def BusPlacesWrongFalsely : Prop := busPlacesRow.holds Try.pinned (OpenSpec.ofChange busPlacesWrong)

/-- 'whirligiglaw20.BusShuts': WHATEVER THE INPUT: true; the input reads as it did. -/
def busShutsSpec : ChangeSpec := { name := "busShuts", fn := fun _ => fun
  | [d1, d2, d3, d4] => { results := [.lit (.bool true)], args := [d1, d2, d3, d4] }
  | _ => none }
def busShutsRow : OpenClaim := { program := "ytlfcpmiajcimfaa", sum := "77b0b997b402cb4e65cfec9fc2c4402d21970135129b91dc560d0572ca327220", func := "whirligig/whirligiglaw20.BusShuts", spec := "busShuts", apart := false }
def BusShutsSaid : Prop := busShutsRow.holds Try.pinned (OpenSpec.ofChange busShutsSpec)

/-- ITS FALSE NEIGHBOUR: 'it returns false'. Refute it at one input. -/
def busShutsWrong : ChangeSpec := { name := "busShuts", fn := fun _ => fun
  | [d1, d2, d3, d4] => { results := [.lit (.bool false)], args := [d1, d2, d3, d4] }
  | _ => none }
def BusShutsWrongFalsely : Prop := busShutsRow.holds Try.pinned (OpenSpec.ofChange busShutsWrong)

/-- 'whirligiglaw20.BusPlays': WHATEVER THE INPUT: true; the input reads as it did. -/
def busPlaysSpec : ChangeSpec := { name := "busPlays", fn := fun _ => fun
  | [d] => { results := [.lit (.bool true)], args := [d] }
  | _ => none }
def busPlaysRow : OpenClaim := { program := "ytlfcpmiajcimfaa", sum := "77b0b997b402cb4e65cfec9fc2c4402d21970135129b91dc560d0572ca327220", func := "whirligig/whirligiglaw20.BusPlays", spec := "busPlays", apart := false }
def BusPlaysSaid : Prop := busPlaysRow.holds Try.pinned (OpenSpec.ofChange busPlaysSpec)

/-- ITS FALSE NEIGHBOUR: 'it returns false'. Refute it at one input. -/
def busPlaysWrong : ChangeSpec := { name := "busPlays", fn := fun _ => fun
  | [d] => { results := [.lit (.bool false)], args := [d] }
  | _ => none }
def BusPlaysWrongFalsely : Prop := busPlaysRow.holds Try.pinned (OpenSpec.ofChange busPlaysWrong)

/-- 'whirligiglaw20.BusNobody': WHATEVER THE INPUT: true; the input reads as it did. -/
def busNobodySpec : ChangeSpec := { name := "busNobody", fn := fun _ => fun
  | [d1, d2] => { results := [.lit (.bool true)], args := [d1, d2] }
  | _ => none }
def busNobodyRow : OpenClaim := { program := "ytlfcpmiajcimfaa", sum := "77b0b997b402cb4e65cfec9fc2c4402d21970135129b91dc560d0572ca327220", func := "whirligig/whirligiglaw20.BusNobody", spec := "busNobody", apart := false }
def BusNobodySaid : Prop := busNobodyRow.holds Try.pinned (OpenSpec.ofChange busNobodySpec)

/-- ITS FALSE NEIGHBOUR: 'it returns false'. Refute it at one input. -/
def busNobodyWrong : ChangeSpec := { name := "busNobody", fn := fun _ => fun
  | [d1, d2] => { results := [.lit (.bool false)], args := [d1, d2] }
  | _ => none }
def BusNobodyWrongFalsely : Prop := busNobodyRow.holds Try.pinned (OpenSpec.ofChange busNobodyWrong)

/- THE SECOND FORM. 'bulk': how many values and letters a reading holds, each counted each time it is reached (what is shared counts as often as it is met; a slice's spare places count too). A statement '..UptoSaid' is the law's where the arguments, and the package variables that the reading takes, are together of bulk at most 1048576: NARROWER than '..Said'. Prove '..Said' where nothing that the law and all that it calls make is longer than what came in: it says more and counts as full. Else prove '..UptoSaid'. A law counts once. -/
mutual
def uptoBulk {H : Type} : DataW H → Nat
  | .lit (.string bytes) => bytes.length + 1
  | .lit _ => 1
  | .nil => 1
  | .ptr d => uptoBulk d + 1
  | .slice elems spare => uptoBulkAll elems + uptoBulkAll spare + 1
  | .agg parts => uptoBulkAll parts + 1
  | .iface _ d => uptoBulk d + 1
  | .map entries => uptoBulkEntries entries + 1
  | .held _ => 1
def uptoBulkAll {H : Type} : List (DataW H) → Nat
  | [] => 0
  | d :: r => uptoBulk d + uptoBulkAll r
def uptoBulkEntries {H : Type} : List (Lit × DataW H) → Nat
  | [] => 0
  | x :: r => uptoBulkEntry x + uptoBulkEntries r
def uptoBulkEntry {H : Type} : Lit × DataW H → Nat
  | (.string bytes, d) => bytes.length + uptoBulk d + 1
  | (_, d) => uptoBulk d + 1
 end
def uptoSmall : (H : Type) → List (DataW H) → Bool := fun _ ds => decide (uptoBulkAll ds ≤ 1048576)
def OpenSpec.upto (s : _root_.Go.ChangeSpec) : _root_.Go.OpenSpec := { _root_.Go.OpenSpec.ofChange s with cond := some uptoSmall }

/-- 'whirligiglaw20.BusRegions', WHERE WHAT IT READS IS OF BULK AT MOST 1048576: true; the input reads as it did. -/
def busRegionsUptoRow : OpenClaim := { program := "ytlfcpmiajcimfaa", sum := "77b0b997b402cb4e65cfec9fc2c4402d21970135129b91dc560d0572ca327220", func := "whirligig/whirligiglaw20.BusRegions", spec := "busRegions", apart := false, narrowed := true }
def BusRegionsUptoSaid : Prop := busRegionsUptoRow.holds Try.pinned (OpenSpec.upto busRegionsSpec)

/-- 'whirligiglaw20.BusMeets', WHERE WHAT IT READS IS OF BULK AT MOST 1048576: true; the input reads as it did. -/
def busMeetsUptoRow : OpenClaim := { program := "ytlfcpmiajcimfaa", sum := "77b0b997b402cb4e65cfec9fc2c4402d21970135129b91dc560d0572ca327220", func := "whirligig/whirligiglaw20.BusMeets", spec := "busMeets", apart := false, narrowed := true }
def BusMeetsUptoSaid : Prop := busMeetsUptoRow.holds Try.pinned (OpenSpec.upto busMeetsSpec)

/-- 'whirligiglaw20.BusBack', WHERE WHAT IT READS IS OF BULK AT MOST 1048576: true; the input reads as it did. -/
def busBackUptoRow : OpenClaim := { program := "ytlfcpmiajcimfaa", sum := "77b0b997b402cb4e65cfec9fc2c4402d21970135129b91dc560d0572ca327220", func := "whirligig/whirligiglaw20.BusBack", spec := "busBack", apart := false, narrowed := true }
def BusBackUptoSaid : Prop := busBackUptoRow.holds Try.pinned (OpenSpec.upto busBackSpec)

/-- 'whirligiglaw20.BusPlaces', WHERE WHAT IT READS IS OF BULK AT MOST 1048576: true; the input reads as it did. -/
def busPlacesUptoRow : OpenClaim := { program := "ytlfcpmiajcimfaa", sum := "77b0b997b402cb4e65cfec9fc2c4402d21970135129b91dc560d0572ca327220", func := "whirligig/whirligiglaw20.BusPlaces", spec := "busPlaces", apart := false, narrowed := true }
def BusPlacesUptoSaid : Prop := busPlacesUptoRow.holds Try.pinned (OpenSpec.upto busPlacesSpec)

/-- 'whirligiglaw20.BusShuts', WHERE WHAT IT READS IS OF BULK AT MOST 1048576: true; the input reads as it did. -/
def busShutsUptoRow : OpenClaim := { program := "ytlfcpmiajcimfaa", sum := "77b0b997b402cb4e65cfec9fc2c4402d21970135129b91dc560d0572ca327220", func := "whirligig/whirligiglaw20.BusShuts", spec := "busShuts", apart := false, narrowed := true }
def BusShutsUptoSaid : Prop := busShutsUptoRow.holds Try.pinned (OpenSpec.upto busShutsSpec)

/-- 'whirligiglaw20.BusPlays', WHERE WHAT IT READS IS OF BULK AT MOST 1048576: true; the input reads as it did. -/
def busPlaysUptoRow : OpenClaim := { program := "ytlfcpmiajcimfaa", sum := "77b0b997b402cb4e65cfec9fc2c4402d21970135129b91dc560d0572ca327220", func := "whirligig/whirligiglaw20.BusPlays", spec := "busPlays", apart := false, narrowed := true }
def BusPlaysUptoSaid : Prop := busPlaysUptoRow.holds Try.pinned (OpenSpec.upto busPlaysSpec)

/-- 'whirligiglaw20.BusNobody', WHERE WHAT IT READS IS OF BULK AT MOST 1048576: true; the input reads as it did. -/
def busNobodyUptoRow : OpenClaim := { program := "ytlfcpmiajcimfaa", sum := "77b0b997b402cb4e65cfec9fc2c4402d21970135129b91dc560d0572ca327220", func := "whirligig/whirligiglaw20.BusNobody", spec := "busNobody", apart := false, narrowed := true }
def BusNobodyUptoSaid : Prop := busNobodyUptoRow.holds Try.pinned (OpenSpec.upto busNobodySpec)

end Rows
end Go.Proofs.Ytlfcpmiajcimfaa
