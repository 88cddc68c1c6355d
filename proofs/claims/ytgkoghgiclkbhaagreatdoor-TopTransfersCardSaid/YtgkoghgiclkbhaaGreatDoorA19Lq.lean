/- A round of the law from its states. No condition but the hypotheses that stand in each. -/
import Derived.Test.YtgkoghgiclkbhaaGreatDoorA04XaHw
namespace Go.Proofs.YtgkoghgiclkbhaaGreatDoor.Sx
open Go
set_option maxRecDepth 100000
theorem lawOk3 : lawChk XL lawBody lawJ3 = true := by kernel_rfl
theorem lawOk4 : lawChk XL lawBody lawJ4 = true := by kernel_rfl
end Go.Proofs.YtgkoghgiclkbhaaGreatDoor.Sx
