/- The pure statement of the law whirligiglaw12_SerialIdle: over whole numbers and bools alone; no condition but that each number is of its kind. -/
import Derived.Test.YtbceegmpdgadoaaPx6
namespace Go.Proofs.Ytbceegmpdgadoaa.P
/-- The pure statement of whirligiglaw12_SerialIdle. -/
def whirligiglaw12_SerialIdle.Pure : Prop := ∀ (a0_0 : Int) (a0_1 : Int) (a0_2 : Int) (a0_3 : Int) (a1 : Bool) (a2 : Bool), (Lit.int .u8 a0_0).wf = true → (Lit.int .u8 a0_1).wf = true → (Lit.int .u8 a0_2).wf = true → (Lit.int .u8 a0_3).wf = true → whirligiglaw12_SerialIdle.f a0_0 a0_1 a0_2 a0_3 a1 a2 = some true
end Go.Proofs.Ytbceegmpdgadoaa.P
