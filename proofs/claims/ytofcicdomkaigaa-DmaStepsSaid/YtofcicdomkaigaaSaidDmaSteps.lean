/- The pure statement of the law whirligiglaw19_DmaSteps: over whole numbers and bools alone; no condition but that each number is of its kind. -/
import Derived.Test.YtofcicdomkaigaaPx4
namespace Go.Proofs.Ytofcicdomkaigaa.P
/-- The pure statement of whirligiglaw19_DmaSteps. -/
def whirligiglaw19_DmaSteps.Pure : Prop := ∀ (a0_0 : Bool) (a0_1 : Int) (a0_2 : Int) (a0_3 : Int) (a0_4 : Int), (Lit.int .u8 a0_1).wf = true → (Lit.int .u8 a0_2).wf = true → (Lit.int .u8 a0_3).wf = true → (Lit.int .u8 a0_4).wf = true → ∃ k, whirligiglaw19_DmaSteps.f k a0_0 a0_1 a0_2 a0_3 a0_4 = some true
end Go.Proofs.Ytofcicdomkaigaa.P
