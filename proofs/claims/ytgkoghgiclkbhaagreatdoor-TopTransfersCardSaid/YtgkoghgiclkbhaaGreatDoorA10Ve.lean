/- The machine's cycles, each by its contract (the first six). No condition but the hypotheses that stand in each. -/
import Derived.Test.YtgkoghgiclkbhaaGreatDoorA08Va
import Derived.Test.YtgkoghgiclkbhaaGreatDoorA09Vc
import Derived.Test.YtgkoghgiclkbhaaGreatDoorA04XaHw
namespace Go.Proofs.YtgkoghgiclkbhaaGreatDoor.Sx
open Go
noncomputable section
set_option maxRecDepth 100000
def hook8 : Call1 := orHook (hookAll mcCyc) (hookM mcOthersC)
theorem hook8_ok (h : Sums Tryz.prog L117) : CallOk Tryz.prog hook8 := orHook_ok (hookAll_ok cyc_ok) (hookM_ok (othersC_ok h _ (List.mem_cons_self ..)))
def X8 : Env1 := envE hook8 noF []
theorem allMC8_ok (h : Sums Tryz.prog L117) {l : List MC} (hc : allMC X8 l = true) : MsOk l := by
  induction l with
  | nil => exact MsOk.nil
  | cons M l ih =>
    simp only [allMC, Bool.and_eq_true] at hc
    intro N hN
    rcases List.mem_cons.1 hN with rfl | hN
    · exact mc_ok (envE_ok (hook8_ok h)) hc.1
    · exact ih hc.2 N hN
def nth8 (k : Nat) : List MC := (mcs8.drop k).take 1
theorem step8_0 : allMC X8 (nth8 0) = true := by kernel_rfl
theorem step8_1 : allMC X8 (nth8 1) = true := by kernel_rfl
theorem step8_2 : allMC X8 (nth8 2) = true := by kernel_rfl
theorem step8_3 : allMC X8 (nth8 3) = true := by kernel_rfl
end
end Go.Proofs.YtgkoghgiclkbhaaGreatDoor.Sx
