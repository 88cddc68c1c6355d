/- The pure statement of the law whirligiglaw12_SerialReads: over whole numbers and bools alone; no condition but that each number is of its kind. -/
import Derived.Test.YtbceegmpdgadoaaPx8
namespace Go.Proofs.Ytbceegmpdgadoaa.P
/-- The pure statement of whirligiglaw12_SerialReads. -/
def whirligiglaw12_SerialReads.Pure : Prop := ∀ (a0_0 : Int) (a0_1 : Int) (a0_2 : Int) (a0_3 : Int) (a1 : Int), (Lit.int .u8 a0_0).wf = true → (Lit.int .u8 a0_1).wf = true → (Lit.int .u8 a0_2).wf = true → (Lit.int .u8 a0_3).wf = true → (Lit.int .u16 a1).wf = true → whirligiglaw12_SerialReads.f a0_0 a0_1 a0_2 a0_3 a1 = some true
end Go.Proofs.Ytbceegmpdgadoaa.P
