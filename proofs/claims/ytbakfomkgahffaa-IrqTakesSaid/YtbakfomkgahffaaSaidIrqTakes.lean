/- The pure statement of the law whirligiglaw14_IrqTakes: over whole numbers and bools alone; no condition but that each number is of its kind. -/
import Derived.Test.YtbakfomkgahffaaPx28
namespace Go.Proofs.Ytbakfomkgahffaa.P
/-- The pure statement of whirligiglaw14_IrqTakes. -/
def whirligiglaw14_IrqTakes.Pure : Prop := ∀ (a0_0 : Int) (a0_1 : Int) (a1 : Int), (Lit.int .u8 a0_0).wf = true → (Lit.int .u8 a0_1).wf = true → (Lit.int .u8 a1).wf = true → ∃ k, whirligiglaw14_IrqTakes.f k a0_0 a0_1 a1 = some true
end Go.Proofs.Ytbakfomkgahffaa.P
