/- A round of the law from its states. No condition but the hypotheses that stand in each. -/
import Derived.Test.YtgkoghgiclkbhaaGreatDoorA04XaHw
namespace Go.Proofs.YtgkoghgiclkbhaaGreatDoor.Sx
open Go
set_option maxRecDepth 100000
theorem lawOk0 : lawChk XL lawBody lawJ0 = true := by kernel_rfl
theorem lawOk1 : lawChk XL lawBody lawJ1 = true := by kernel_rfl
theorem lawOk2 : lawChk XL lawBody lawJ2 = true := by kernel_rfl
end Go.Proofs.YtgkoghgiclkbhaaGreatDoor.Sx
