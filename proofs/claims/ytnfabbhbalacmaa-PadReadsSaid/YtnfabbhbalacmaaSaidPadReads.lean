/- The pure statement of the law whirligiglaw13_PadReads: over whole numbers and bools alone; no condition but that each number is of its kind. -/
import Derived.Test.YtnfabbhbalacmaaPx7
namespace Go.Proofs.Ytnfabbhbalacmaa.P
/-- The pure statement of whirligiglaw13_PadReads. -/
def whirligiglaw13_PadReads.Pure : Prop := ∀ (a0_0 : Int) (a0_1 : Int) (a1 : Int) (a2 : Int), (Lit.int .u8 a0_0).wf = true → (Lit.int .u8 a0_1).wf = true → (Lit.int .u8 a1).wf = true → (Lit.int .u8 a2).wf = true → ∃ k, whirligiglaw13_PadReads.f k a0_0 a0_1 a1 a2 = some true
end Go.Proofs.Ytnfabbhbalacmaa.P
