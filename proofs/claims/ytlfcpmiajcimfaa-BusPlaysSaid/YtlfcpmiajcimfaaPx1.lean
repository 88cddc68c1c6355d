/- Contracts of Go functions of this seat: each Lean function here is what the Go function of its name answers, in every memory; no condition but the equations that each theorem states. Written by a program of this session (wip/given.py); Lean checks it. -/
import Derived.Test.YtlfcpmiajcimfaaPx0
namespace Go.Proofs.Ytlfcpmiajcimfaa.P
open Go.RowKit Go.Proofs.YtlfcpmiajcimfaaW.PrintWords Go.Proofs.YtlfcpmiajcimfaaW.PrintLast Go.Proofs.YtlfcpmiajcimfaaW.PrintMore
attribute [local go_sem] max2_int min2_int max_two min_two max_three min_three max_four min_four   -- for this text's walks alone
set_option linter.unusedVariables false
set_option linter.unusedSimpArgs false

/-! ### bus_find: function 29 -/
-- IMPORT Derived.Test.YtlfcpmiajcimfaaFind
def bus_find.f (a0 : Int) : Option (Int × Int) := some (bestOf a0 findTab (0, 0))
theorem bus_find.calls (a0 : Int) (r1 : Int) (r2 : Int) (w : World) (h : bus_find.f a0 = some (r1, r2)) :
    Calls Try.prog 29 #[.int .u16 a0] w fun e w' => e = .returned (.agg #[.int .u16 r1, .int .i64 r2]) ∧ Below w.heap.size w w' := by
  unfold bus_find.f at h
  exact find_walk a0 r1 r2 w (Option.some.inj h)

end Go.Proofs.Ytlfcpmiajcimfaa.P
