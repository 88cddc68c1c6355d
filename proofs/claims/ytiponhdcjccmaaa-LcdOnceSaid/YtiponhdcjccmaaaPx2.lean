/- Contracts of Go functions of this seat: each Lean function here is what the Go function of its name answers, in every memory; no condition but the equations that each theorem states. Written by a program of this session (wip/given.py); Lean checks it. -/
import Derived.Test.YtiponhdcjccmaaaPx0
namespace Go.Proofs.Ytiponhdcjccmaaa.P
open Go.RowKit Go.Proofs.YtiponhdcjccmaaaW.PrintWords Go.Proofs.YtiponhdcjccmaaaW.PrintLast Go.Proofs.YtiponhdcjccmaaaW.PrintMore
attribute [local go_sem] max2_int min2_int max_two min_two max_three min_three max_four min_four   -- for this text's walks alone
set_option linter.unusedVariables false
set_option linter.unusedSimpArgs false

theorem eqA27 (d : Nat) (w : World) (x0 y0 : Bool) (x1 y1 : Bool) (x2 y2 : Bool) :
    (Op.equalIn (d + 2) 27 (.agg #[.bool x0, .bool x1, .bool x2]) (.agg #[.bool y0, .bool y1, .bool y2])).run Try.prog w = .ok (x0 == y0 && (x1 == y1 && (x2 == y2))) w := by
  refine eqA_of Try.underlying27 (by kernel_rfl) ?_
  refine eqf_cons (by rfl) (by go_simp; rfl) (by go_simp; rfl) (by go_simp) ?_
  refine eqf_cons (by rfl) (by go_simp; rfl) (by go_simp; rfl) (by go_simp) ?_
  exact eqf_last (by rfl) (by go_simp; rfl) (by go_simp; rfl) (by go_simp)
end Go.Proofs.Ytiponhdcjccmaaa.P
