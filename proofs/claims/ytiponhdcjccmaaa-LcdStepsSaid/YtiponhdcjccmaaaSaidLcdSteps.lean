/- The pure statement of the law whirligiglaw15_LcdSteps: over whole numbers and bools alone; no condition but that each number is of its kind. -/
import Derived.Test.YtiponhdcjccmaaaPx15
namespace Go.Proofs.Ytiponhdcjccmaaa.P
/-- The pure statement of whirligiglaw15_LcdSteps. -/
def whirligiglaw15_LcdSteps.Pure : Prop := ∀ (a0_0 : Bool) (a0_1 : Int) (a0_2 : Int) (a0_3 : Int) (a0_4 : Int) (a0_5 : Bool) (a0_6 : Int) (a1 : Int), (Lit.int .u8 a0_1).wf = true → (Lit.int .u16 a0_2).wf = true → (Lit.int .u8 a0_3).wf = true → (Lit.int .u8 a0_4).wf = true → (Lit.int .u16 a0_6).wf = true → (Lit.int .u16 a1).wf = true → ∃ k, whirligiglaw15_LcdSteps.f k a0_0 a0_1 a0_2 a0_3 a0_4 a0_5 a0_6 a1 = some true
end Go.Proofs.Ytiponhdcjccmaaa.P
