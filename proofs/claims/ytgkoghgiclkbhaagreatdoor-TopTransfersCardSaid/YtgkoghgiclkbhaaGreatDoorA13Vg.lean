/- The image that lives, as header.Make lays it. No condition but the hypotheses that stand in each. -/
import Derived.Test.YtgkoghgiclkbhaaGreatDoorA05Vb
import Derived.Test.YtgkoghgiclkbhaaGreatDoorA12Da
import Derived.Test.YtgkoghgiclkbhaaGreatDoorA03ShHn
import Derived.Test.YtgkoghgiclkbhaaGreatDoorA04XaHw
namespace Go.Proofs.YtgkoghgiclkbhaaGreatDoor.Sx
open Go
noncomputable section
set_option maxRecDepth 100000
theorem d30_ok : DOk Tryz.prog 30 := by
  obtain ⟨fi, hfi⟩ : ∃ fi, tblP Tryz.prog 30 = some fi := Option.isSome_iff_exists.1 (by kernel_rfl)
  exact ⟨fun w p => callFunc_run (tbl_ok 30 fi hfi) _ w, fun p w => c30_idle p w, fun p n older w w1 h => c30_panic p n older w w1 h⟩
def diMake : DI := ⟨13, 30, 11, 17⟩
def XMk : Env1 := envE hookNo noF [10, 11]
def XM : Env1 := envE (hookD XMk diMake) noF []
theorem XM_ok : XM.Ok := envE_ok (hookD_ok (envE_ok hookNo_ok) d30_ok)
def codeB : AB := ⟨setL .leaf 0 (zipE [0, 0, 0, 0, 0] [62, 7, 234, 0, 192]), [], 5, 5⟩
def makeH (l : List AB) : AH := { rng := .leaf, nn := 0, lts := [], hp := setL .leaf 0 l, nb := l.length, fx := [], fm := true, n0 := 0 }
def mcMake : MC := { f := 13, H0 := makeH [codeB], args := [.str [76, 73, 86, 69, 83], .int .u8 (cNum 0), .int .u8 (cNum 0), .int .u8 (cNum 0), .sl 0 0 1 (cNum 5) (cNum 5)], H1 := makeH [codeB, imgB], res := .tup [.sl 1 0 1 (cNum 341) (cNum 341), .int .i64 (cNum 0)], wr := [] }
theorem makeChk : mcChk XM mcMake = true := by kernel_rfl
theorem make_ok : mcMake.Ok Tryz.prog := mc_ok XM_ok makeChk
end
end Go.Proofs.YtgkoghgiclkbhaaGreatDoor.Sx
