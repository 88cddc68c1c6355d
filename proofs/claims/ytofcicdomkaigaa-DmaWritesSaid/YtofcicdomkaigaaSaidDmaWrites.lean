/- The pure statement of the law whirligiglaw19_DmaWrites: over whole numbers and bools alone; no condition but that each number is of its kind. -/
import Derived.Test.YtofcicdomkaigaaPx7
namespace Go.Proofs.Ytofcicdomkaigaa.P
/-- The pure statement of whirligiglaw19_DmaWrites. -/
def whirligiglaw19_DmaWrites.Pure : Prop := ∀ (a0_0 : Bool) (a0_1 : Int) (a0_2 : Int) (a0_3 : Int) (a0_4 : Int) (a1 : Int), (Lit.int .u8 a0_1).wf = true → (Lit.int .u8 a0_2).wf = true → (Lit.int .u8 a0_3).wf = true → (Lit.int .u8 a0_4).wf = true → (Lit.int .u8 a1).wf = true → ∃ k, whirligiglaw19_DmaWrites.f k a0_0 a0_1 a0_2 a0_3 a0_4 a1 = some true
end Go.Proofs.Ytofcicdomkaigaa.P
