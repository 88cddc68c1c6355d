/- The pure statement of the law whirligiglaw13_PadSteps: over whole numbers and bools alone; no condition but that each number is of its kind. -/
import Derived.Test.YtnfabbhbalacmaaPx5
namespace Go.Proofs.Ytnfabbhbalacmaa.P
/-- The pure statement of whirligiglaw13_PadSteps. -/
def whirligiglaw13_PadSteps.Pure : Prop := ∀ (a0_0 : Int) (a0_1 : Int) (a1 : Int), (Lit.int .u8 a0_0).wf = true → (Lit.int .u8 a0_1).wf = true → (Lit.int .u8 a1).wf = true → ∃ k, whirligiglaw13_PadSteps.f k a0_0 a0_1 a1 = some true
end Go.Proofs.Ytnfabbhbalacmaa.P
