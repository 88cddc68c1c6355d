/- Summaries of functions, each asked of the kernel. No condition but the hypotheses that stand in each. -/
import Derived.Test.YtgkoghgiclkbhaaGreatDoorA04XaHw
namespace Go.Proofs.YtgkoghgiclkbhaaGreatDoor.Sx
open Go
set_option maxRecDepth 100000
theorem T117 (h : Sums Tryz.prog L188) : Sums Tryz.prog L117 := more (L := L188) (h := how) h (by kernel_rfl)
theorem Cf_all (h : Sums Tryz.prog L188) : Sums Tryz.prog L117 := T117 h
end Go.Proofs.YtgkoghgiclkbhaaGreatDoor.Sx
