/- What is read twice of the RAM, or of the clock. No condition but the hypotheses that stand in each. -/
import Derived.Test.YtgkoghgiclkbhaaGreatDoorA20Ms
namespace Go.Proofs.YtgkoghgiclkbhaaGreatDoor.Sx
open Go
set_option maxRecDepth 100000
theorem stC0 : stCls (XS noHook) false JS2 ((3, 3), (40960, 49151)) = true := by kernel_rfl
end Go.Proofs.YtgkoghgiclkbhaaGreatDoor.Sx
