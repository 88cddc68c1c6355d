/- What is read twice of the ROM. No condition but the hypotheses that stand in each. -/
import Derived.Test.YtgkoghgiclkbhaaGreatDoorA20Ms
namespace Go.Proofs.YtgkoghgiclkbhaaGreatDoor.Sx
open Go
set_option maxRecDepth 100000
theorem stA0 : stCls (XS noHook) false JS1 ((-9223372036854775808, 0), (0, 16383)) = true := by kernel_rfl
theorem stA1 : stCls (XS noHook) false JS1 ((1, 1), (0, 16383)) = true := by kernel_rfl
theorem stA2 : stCls (XS noHook) false JS1 ((2, 9223372036854775807), (0, 16383)) = true := by kernel_rfl
theorem stA3 : stCls (XS noHook) false JS1 ((-9223372036854775808, 0), (16384, 32767)) = true := by kernel_rfl
theorem stA4 : stCls (XS noHook) false JS1 ((1, 1), (16384, 32767)) = true := by kernel_rfl
theorem stA5 : stCls (XS noHook) false JS1 ((2, 9223372036854775807), (16384, 32767)) = true := by kernel_rfl
end Go.Proofs.YtgkoghgiclkbhaaGreatDoor.Sx
