/- Contracts of Go functions of this seat: each Lean function here is what the Go function of its name answers, in every memory; no condition but the equations that each theorem states. Written by a program of this session (wip/given.py); Lean checks it. -/
import Derived.Test.YtiponhdcjccmaaaProg
import Derived.Below
import Derived.Deep.Draws
import Derived.Deep.AppendLies
import Derived.Maps.AppendAt
import Derived.OwnWalk
import Derived.Laws.BytesArg
import Derived.Laws.MakeOwn
import Derived.Laws.OwnMore
import Derived.Deep.OwnRows
import Derived.Tactics
import Derived.Lib.ConvBytes
import Derived.Laws.Slices
import Derived.WalkKit
import Derived.KernelRfl
import Derived.RowKit3
import Derived.Deep.LoopGhost
import Derived.Deep.QuietTactic
import Derived.BigQuiet
import Derived.WideLaws
import Derived.Deep.DeepCutAuto
import Derived.Deep.CutBlock
import Derived.Deep.RegionHeld3
import Derived.Laws.Rows
import Derived.Lib.AppendStr
import Derived.ArgAppend
import Derived.Laws.IdiomCopy
import Derived.OrdersHeld
import Derived.Laws.BitsLemmas
import Derived.RowKit
import Derived.Test.YtiponhdcjccmaaaWWords
import Derived.Test.YtiponhdcjccmaaaWLast
import Derived.Test.YtiponhdcjccmaaaWTab
import Derived.Test.YtiponhdcjccmaaaWFour
import Derived.Test.YtiponhdcjccmaaaWQPut
import Derived.Test.YtiponhdcjccmaaaWApart
import Derived.Test.YtiponhdcjccmaaaWArr
import Derived.Test.YtiponhdcjccmaaaWZeros
import Derived.Test.YtiponhdcjccmaaaWFoot
import Derived.Test.YtiponhdcjccmaaaWKept
import Derived.Test.YtiponhdcjccmaaaWShare
import Derived.Test.YtiponhdcjccmaaaWN
import Derived.Test.YtiponhdcjccmaaaWFootNe
import Derived.Test.YtiponhdcjccmaaaWAt
import Derived.Test.YtiponhdcjccmaaaWEqStruct
import Derived.Test.YtiponhdcjccmaaaWRepsOne
import Derived.Test.YtiponhdcjccmaaaWInv
import Derived.Test.YtiponhdcjccmaaaWInvWords
import Derived.Test.YtiponhdcjccmaaaWGuard
import Derived.Test.YtiponhdcjccmaaaWNEv
import Derived.Test.YtiponhdcjccmaaaWMore
namespace Go.Proofs.Ytiponhdcjccmaaa.P
open Go.RowKit Go.Proofs.YtiponhdcjccmaaaW.PrintWords Go.Proofs.YtiponhdcjccmaaaW.PrintLast Go.Proofs.YtiponhdcjccmaaaW.PrintMore
attribute [local go_sem] max2_int min2_int max_two min_two max_three min_three max_four min_four   -- for this text's walks alone
set_option linter.unusedVariables false
set_option linter.unusedSimpArgs false



def errW : Option Int → Value
  | none => .nilIface
  | some c => .iface 0 (.int .i64 c)
theorem errW_none : errW none = .nilIface := rfl
theorem errW_some (c : Int) : errW (some c) = .iface 0 (.int .i64 c) := rfl

-- the values' own types

end Go.Proofs.Ytiponhdcjccmaaa.P
