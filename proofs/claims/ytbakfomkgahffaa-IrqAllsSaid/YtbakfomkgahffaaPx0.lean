/- Contracts of Go functions of this seat: each Lean function here is what the Go function of its name answers, in every memory; no condition but the equations that each theorem states. Written by a program of this session (wip/given.py); Lean checks it. -/
import Derived.Test.YtbakfomkgahffaaProg
import Derived.Below
import Derived.Deep.Draws
import Derived.Deep.AppendLies
import Derived.Maps.AppendAt
import Derived.OwnWalk
import Derived.Laws.BytesArg
import Derived.Laws.MakeOwn
import Derived.Laws.OwnMore
import Derived.Deep.OwnRows
import Derived.Tactics
import Derived.Lib.ConvBytes
import Derived.Laws.Slices
import Derived.WalkKit
import Derived.KernelRfl
import Derived.RowKit3
import Derived.Deep.LoopGhost
import Derived.Deep.QuietTactic
import Derived.BigQuiet
import Derived.WideLaws
import Derived.Deep.DeepCutAuto
import Derived.Deep.CutBlock
import Derived.Deep.RegionHeld3
import Derived.Laws.Rows
import Derived.Lib.AppendStr
import Derived.ArgAppend
import Derived.Laws.IdiomCopy
import Derived.OrdersHeld
import Derived.Laws.BitsLemmas
import Derived.RowKit
import Derived.Test.YtbakfomkgahffaaFirst
import Derived.Test.YtbakfomkgahffaaWWords
import Derived.Test.YtbakfomkgahffaaWLast
import Derived.Test.YtbakfomkgahffaaWTab
import Derived.Test.YtbakfomkgahffaaWFour
import Derived.Test.YtbakfomkgahffaaWQPut
import Derived.Test.YtbakfomkgahffaaWApart
import Derived.Test.YtbakfomkgahffaaWArr
import Derived.Test.YtbakfomkgahffaaWZeros
import Derived.Test.YtbakfomkgahffaaWFoot
import Derived.Test.YtbakfomkgahffaaWKept
import Derived.Test.YtbakfomkgahffaaWShare
import Derived.Test.YtbakfomkgahffaaWN
import Derived.Test.YtbakfomkgahffaaWFootNe
import Derived.Test.YtbakfomkgahffaaWAt
import Derived.Test.YtbakfomkgahffaaWEqStruct
import Derived.Test.YtbakfomkgahffaaWRepsOne
import Derived.Test.YtbakfomkgahffaaWInv
import Derived.Test.YtbakfomkgahffaaWInvWords
import Derived.Test.YtbakfomkgahffaaWGuard
import Derived.Test.YtbakfomkgahffaaWNEv
import Derived.Test.YtbakfomkgahffaaWMore
namespace Go.Proofs.Ytbakfomkgahffaa.P
open Go.RowKit Go.Proofs.YtbakfomkgahffaaW.PrintWords Go.Proofs.YtbakfomkgahffaaW.PrintLast Go.Proofs.YtbakfomkgahffaaW.PrintMore
attribute [local go_sem] max2_int min2_int max_two min_two max_three min_three max_four min_four   -- for this text's walks alone
set_option linter.unusedVariables false
set_option linter.unusedSimpArgs false



def errW : Option Int → Value
  | none => .nilIface
  | some c => .iface 0 (.int .i64 c)
theorem errW_none : errW none = .nilIface := rfl
theorem errW_some (c : Int) : errW (some c) = .iface 0 (.int .i64 c) := rfl

theorem info3 : (Try.prog.info? 3).map (fun i => (i.zero, i.size, i.bytes)) = some (some (.int .i64 0), 1, 8) := by kernel_rfl
-- the values' own types

end Go.Proofs.Ytbakfomkgahffaa.P
