/- Contracts of Go functions of this seat: each Lean function here is what the Go function of its name answers, in every memory; no condition but the equations that each theorem states. Written by a program of this session (wip/given.py); Lean checks it. -/
import Derived.Test.YtlfcpmiajcimfaaProg
import Derived.Below
import Derived.Deep.Draws
import Derived.Deep.AppendLies
import Derived.Maps.AppendAt
import Derived.OwnWalk
import Derived.Laws.BytesArg
import Derived.Laws.MakeOwn
import Derived.Laws.OwnMore
import Derived.Deep.OwnRows
import Derived.Tactics
import Derived.Lib.ConvBytes
import Derived.Laws.Slices
import Derived.WalkKit
import Derived.KernelRfl
import Derived.RowKit3
import Derived.Deep.LoopGhost
import Derived.Deep.QuietTactic
import Derived.BigQuiet
import Derived.WideLaws
import Derived.Deep.DeepCutAuto
import Derived.Deep.CutBlock
import Derived.Deep.RegionHeld3
import Derived.Laws.Rows
import Derived.Lib.AppendStr
import Derived.ArgAppend
import Derived.Laws.IdiomCopy
import Derived.OrdersHeld
import Derived.Laws.BitsLemmas
import Derived.RowKit
import Derived.Test.YtlfcpmiajcimfaaFind
import Derived.Test.YtlfcpmiajcimfaaM4
import Derived.Test.YtlfcpmiajcimfaaWWords
import Derived.Test.YtlfcpmiajcimfaaWLast
import Derived.Test.YtlfcpmiajcimfaaWTab
import Derived.Test.YtlfcpmiajcimfaaWFour
import Derived.Test.YtlfcpmiajcimfaaWQPut
import Derived.Test.YtlfcpmiajcimfaaWApart
import Derived.Test.YtlfcpmiajcimfaaWArr
import Derived.Test.YtlfcpmiajcimfaaWZeros
import Derived.Test.YtlfcpmiajcimfaaWFoot
import Derived.Test.YtlfcpmiajcimfaaWKept
import Derived.Test.YtlfcpmiajcimfaaWShare
import Derived.Test.YtlfcpmiajcimfaaWN
import Derived.Test.YtlfcpmiajcimfaaWFootNe
import Derived.Test.YtlfcpmiajcimfaaWAt
import Derived.Test.YtlfcpmiajcimfaaWEqStruct
import Derived.Test.YtlfcpmiajcimfaaWRepsOne
import Derived.Test.YtlfcpmiajcimfaaWInv
import Derived.Test.YtlfcpmiajcimfaaWInvWords
import Derived.Test.YtlfcpmiajcimfaaWGuard
import Derived.Test.YtlfcpmiajcimfaaWNEv
import Derived.Test.YtlfcpmiajcimfaaWMore
namespace Go.Proofs.Ytlfcpmiajcimfaa.P
open Go.RowKit Go.Proofs.YtlfcpmiajcimfaaW.PrintWords Go.Proofs.YtlfcpmiajcimfaaW.PrintLast Go.Proofs.YtlfcpmiajcimfaaW.PrintMore
attribute [local go_sem] max2_int min2_int max_two min_two max_three min_three max_four min_four   -- for this text's walks alone
set_option linter.unusedVariables false
set_option linter.unusedSimpArgs false



def errW : Option Int → Value
  | none => .nilIface
  | some c => .iface 0 (.int .i64 c)
theorem errW_none : errW none = .nilIface := rfl
theorem errW_some (c : Int) : errW (some c) = .iface 0 (.int .i64 c) := rfl

theorem info5 : (Try.prog.info? 5).map (fun i => (i.zero, i.size, i.bytes)) = some (some (.int .u8 0), 1, 1) := by kernel_rfl
-- the values' own types

end Go.Proofs.Ytlfcpmiajcimfaa.P
