/- Contracts of Go functions of this seat: each Lean function here is what the Go function of its name answers, in every memory; no condition but the equations that each theorem states. Written by a program of this session (wip/given.py); Lean checks it. -/
import Derived.Test.YtofcicdomkaigaaProg
import Derived.Below
import Derived.Deep.Draws
import Derived.Deep.AppendLies
import Derived.Maps.AppendAt
import Derived.OwnWalk
import Derived.Laws.BytesArg
import Derived.Laws.MakeOwn
import Derived.Laws.OwnMore
import Derived.Deep.OwnRows
import Derived.Tactics
import Derived.Lib.ConvBytes
import Derived.Laws.Slices
import Derived.WalkKit
import Derived.KernelRfl
import Derived.RowKit3
import Derived.Deep.LoopGhost
import Derived.Deep.QuietTactic
import Derived.BigQuiet
import Derived.WideLaws
import Derived.Deep.DeepCutAuto
import Derived.Deep.CutBlock
import Derived.Deep.RegionHeld3
import Derived.Laws.Rows
import Derived.Lib.AppendStr
import Derived.ArgAppend
import Derived.Laws.IdiomCopy
import Derived.OrdersHeld
import Derived.Laws.BitsLemmas
import Derived.RowKit
import Derived.Test.YtofcicdomkaigaaWWords
import Derived.Test.YtofcicdomkaigaaWLast
import Derived.Test.YtofcicdomkaigaaWTab
import Derived.Test.YtofcicdomkaigaaWFour
import Derived.Test.YtofcicdomkaigaaWQPut
import Derived.Test.YtofcicdomkaigaaWApart
import Derived.Test.YtofcicdomkaigaaWArr
import Derived.Test.YtofcicdomkaigaaWZeros
import Derived.Test.YtofcicdomkaigaaWFoot
import Derived.Test.YtofcicdomkaigaaWKept
import Derived.Test.YtofcicdomkaigaaWShare
import Derived.Test.YtofcicdomkaigaaWN
import Derived.Test.YtofcicdomkaigaaWFootNe
import Derived.Test.YtofcicdomkaigaaWAt
import Derived.Test.YtofcicdomkaigaaWEqStruct
import Derived.Test.YtofcicdomkaigaaWRepsOne
import Derived.Test.YtofcicdomkaigaaWInv
import Derived.Test.YtofcicdomkaigaaWInvWords
import Derived.Test.YtofcicdomkaigaaWGuard
import Derived.Test.YtofcicdomkaigaaWNEv
import Derived.Test.YtofcicdomkaigaaWMore
namespace Go.Proofs.Ytofcicdomkaigaa.P
open Go.RowKit Go.Proofs.YtofcicdomkaigaaW.PrintWords Go.Proofs.YtofcicdomkaigaaW.PrintLast Go.Proofs.YtofcicdomkaigaaW.PrintMore
attribute [local go_sem] max2_int min2_int max_two min_two max_three min_three max_four min_four   -- for this text's walks alone
set_option linter.unusedVariables false
set_option linter.unusedSimpArgs false



def errW : Option Int → Value
  | none => .nilIface
  | some c => .iface 0 (.int .i64 c)
theorem errW_none : errW none = .nilIface := rfl
theorem errW_some (c : Int) : errW (some c) = .iface 0 (.int .i64 c) := rfl

-- the values' own types

end Go.Proofs.Ytofcicdomkaigaa.P
