/- What is read twice of the RAM. No condition but the hypotheses that stand in each. -/
import Derived.Test.YtgkoghgiclkbhaaGreatDoorA20Ms
namespace Go.Proofs.YtgkoghgiclkbhaaGreatDoor.Sx
open Go
set_option maxRecDepth 100000
theorem stB0 : stCls (XS noHook) false JS2 ((-9223372036854775808, 0), (40960, 49151)) = true := by kernel_rfl
theorem stB1 : stCls (XS noHook) false JS2 ((1, 1), (40960, 49151)) = true := by kernel_rfl
theorem stB2 : stCls (XS noHook) false JS2 ((2, 2), (40960, 49151)) = true := by kernel_rfl
theorem stB3 : stCls (XS noHook) false JS2 ((4, 9223372036854775807), (40960, 49151)) = true := by kernel_rfl
end Go.Proofs.YtgkoghgiclkbhaaGreatDoor.Sx
