/- Summaries of functions, each asked of the kernel. No condition but the hypotheses that stand in each. -/
import Derived.Test.YtgkoghgiclkbhaaGreatDoorA04XaHw
namespace Go.Proofs.YtgkoghgiclkbhaaGreatDoor.Sx
open Go
set_option maxRecDepth 100000
theorem T92 (h : Sums Tryz.prog L21) : Sums Tryz.prog L92 := more (L := L21) (h := how) h (by kernel_rfl)
theorem T36 (h : Sums Tryz.prog L92) : Sums Tryz.prog L36 := more (L := L92) (h := how) h (by kernel_rfl)
theorem Cc_all (h : Sums Tryz.prog L21) : Sums Tryz.prog L36 := T36 (T92 h)
end Go.Proofs.YtgkoghgiclkbhaaGreatDoor.Sx
