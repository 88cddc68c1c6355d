/- The image that lives, to its end. No condition but the hypotheses that stand in each. -/
import Derived.Test.YtgkoghgiclkbhaaGreatDoorA11Vf
import Derived.Test.YtgkoghgiclkbhaaGreatDoorA14Vh
import Derived.Test.YtgkoghgiclkbhaaGreatDoorA16Jh
namespace Go.Proofs.YtgkoghgiclkbhaaGreatDoor.Sx
open Go
noncomputable section
set_option maxRecDepth 100000
def hookLv : Call1 := orHook (hookPC mcs8) (orHook (hookN mcMake) (orHook (hookN mcNewL) (orHook (hookN mcScr) hookJoin)))
theorem hookLv_ok (h : Sums Tryz.prog L117) : CallOk Tryz.prog hookLv :=
  orHook_ok (hookPC_ok (steps8_ok h)) (orHook_ok (hookN_ok make_ok) (orHook_ok (hookN_ok newL_ok) (orHook_ok (hookN_ok scr_ok) hookJoin_ok)))
def XLv : Env1 := envE hookLv noF []
def livesH : AH := { rng := .leaf, nn := 0, lts := [], hp := .leaf, nb := 0, fx := [], fm := true, n0 := 0 }
def mcLives : MC := { f := 5, H0 := livesH, args := [], H1 := livesH, res := .bool (.c true), wr := [] }
theorem livesChk : mcChk XLv mcLives = true := by kernel_rfl
theorem lives_ok (h : Sums Tryz.prog L117) : mcLives.Ok Tryz.prog := mc_ok (envE_ok (hookLv_ok h)) livesChk
end
end Go.Proofs.YtgkoghgiclkbhaaGreatDoor.Sx
