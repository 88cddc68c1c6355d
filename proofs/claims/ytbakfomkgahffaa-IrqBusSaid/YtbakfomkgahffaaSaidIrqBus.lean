/- The pure statement of the law whirligiglaw14_IrqBus: over whole numbers and bools alone; no condition but that each number is of its kind. -/
import Derived.Test.YtbakfomkgahffaaPx22
namespace Go.Proofs.Ytbakfomkgahffaa.P
/-- The pure statement of whirligiglaw14_IrqBus. -/
def whirligiglaw14_IrqBus.Pure : Prop := ∀ (a0_0 : Int) (a0_1 : Int) (a1 : Int) (a2 : Int), (Lit.int .u8 a0_0).wf = true → (Lit.int .u8 a0_1).wf = true → (Lit.int .u16 a1).wf = true → (Lit.int .u8 a2).wf = true → whirligiglaw14_IrqBus.f a0_0 a0_1 a1 a2 = some true
end Go.Proofs.Ytbakfomkgahffaa.P
