/- Contracts of Go functions of this seat: each Lean function here is what the Go function of its name answers, in every memory; no condition but the equations that each theorem states. Written by a program of this session (wip/given.py); Lean checks it. -/
import Derived.Test.YtmigbinllnejoaaProg
import Derived.Below
import Derived.Deep.Draws
import Derived.Deep.AppendLies
import Derived.Maps.AppendAt
import Derived.OwnWalk
import Derived.Laws.BytesArg
import Derived.Laws.MakeOwn
import Derived.Laws.OwnMore
import Derived.Deep.OwnRows
import Derived.Tactics
import Derived.Lib.ConvBytes
import Derived.Laws.Slices
import Derived.WalkKit
import Derived.KernelRfl
import Derived.RowKit3
import Derived.Deep.LoopGhost
import Derived.Deep.QuietTactic
import Derived.BigQuiet
import Derived.WideLaws
import Derived.Deep.DeepCutAuto
import Derived.Deep.CutBlock
import Derived.Deep.RegionHeld3
import Derived.Laws.Rows
import Derived.Lib.AppendStr
import Derived.ArgAppend
import Derived.Laws.IdiomCopy
import Derived.OrdersHeld
import Derived.Laws.BitsLemmas
import Derived.RowKit
import Derived.Test.YtmigbinllnejoaaWWords
import Derived.Test.YtmigbinllnejoaaWLast
import Derived.Test.YtmigbinllnejoaaWTab
import Derived.Test.YtmigbinllnejoaaWFour
import Derived.Test.YtmigbinllnejoaaWQPut
import Derived.Test.YtmigbinllnejoaaWApart
import Derived.Test.YtmigbinllnejoaaWArr
import Derived.Test.YtmigbinllnejoaaWZeros
import Derived.Test.YtmigbinllnejoaaWFoot
import Derived.Test.YtmigbinllnejoaaWKept
import Derived.Test.YtmigbinllnejoaaWShare
import Derived.Test.YtmigbinllnejoaaWN
import Derived.Test.YtmigbinllnejoaaWFootNe
import Derived.Test.YtmigbinllnejoaaWAt
import Derived.Test.YtmigbinllnejoaaWEqStruct
import Derived.Test.YtmigbinllnejoaaWRepsOne
import Derived.Test.YtmigbinllnejoaaWInv
import Derived.Test.YtmigbinllnejoaaWInvWords
import Derived.Test.YtmigbinllnejoaaWGuard
import Derived.Test.YtmigbinllnejoaaWNEv
import Derived.Test.YtmigbinllnejoaaWMore
namespace Go.Proofs.Ytmigbinllnejoaa.P
open Go.RowKit Go.Proofs.YtmigbinllnejoaaW.PrintWords Go.Proofs.YtmigbinllnejoaaW.PrintLast Go.Proofs.YtmigbinllnejoaaW.PrintMore
attribute [local go_sem] max2_int min2_int max_two min_two max_three min_three max_four min_four   -- for this text's walks alone
set_option linter.unusedVariables false
set_option linter.unusedSimpArgs false



def errW : Option Int → Value
  | none => .nilIface
  | some c => .iface 0 (.int .i64 c)
theorem errW_none : errW none = .nilIface := rfl
theorem errW_some (c : Int) : errW (some c) = .iface 0 (.int .i64 c) := rfl

-- the values' own types

end Go.Proofs.Ytmigbinllnejoaa.P
