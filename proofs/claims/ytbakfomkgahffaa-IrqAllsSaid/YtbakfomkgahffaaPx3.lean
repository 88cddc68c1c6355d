/- Contracts of Go functions of this seat: each Lean function here is what the Go function of its name answers, in every memory; no condition but the equations that each theorem states. Written by a program of this session (wip/given.py); Lean checks it. -/
import Derived.Test.YtbakfomkgahffaaPx0
namespace Go.Proofs.Ytbakfomkgahffaa.P
open Go.RowKit Go.Proofs.YtbakfomkgahffaaW.PrintWords Go.Proofs.YtbakfomkgahffaaW.PrintLast Go.Proofs.YtbakfomkgahffaaW.PrintMore
attribute [local go_sem] max2_int min2_int max_two min_two max_three min_three max_four min_four   -- for this text's walks alone
set_option linter.unusedVariables false
set_option linter.unusedSimpArgs false

/-! ### irq_First: function 10 -/
-- IMPORT Derived.Test.YtbakfomkgahffaaFirst
def irq_First.f (a0 : Int) : Option (Int × Bool) := some ((It.bits a0 5).headD 0, !(It.bits a0 5).isEmpty)
theorem irq_First.calls (a0 : Int) (r1 : Int) (r2 : Bool) (w : World) (h : irq_First.f a0 = some (r1, r2)) :
    Calls Try.prog 10 #[.int .u8 a0] w fun e w' => e = .returned (.tuple #[.int .i64 r1, .bool r2]) ∧ Below w.heap.size w w' := by
  unfold irq_First.f at h
  simp only [Option.some.injEq, Prod.mk.injEq] at h
  obtain ⟨rfl, rfl⟩ := h
  exact It.first_calls a0 w

end Go.Proofs.Ytbakfomkgahffaa.P
