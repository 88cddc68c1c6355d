/- Summaries of functions, each asked of the kernel. No condition but the hypotheses that stand in each. -/
import Derived.Test.YtgkoghgiclkbhaaGreatDoorA04XaHw
namespace Go.Proofs.YtgkoghgiclkbhaaGreatDoor.Sx
open Go
set_option maxRecDepth 100000
theorem T258 (h : Sums Tryz.prog L278) : Sums Tryz.prog L258 := more (L := L278) (h := how) h (by kernel_rfl)
theorem T256 (h : Sums Tryz.prog L258) : Sums Tryz.prog L256 := more (L := L258) (h := how) h (by kernel_rfl)
theorem T236 (h : Sums Tryz.prog L256) : Sums Tryz.prog L236 := more (L := L256) (h := how) h (by kernel_rfl)
theorem T237 (h : Sums Tryz.prog L236) : Sums Tryz.prog L237 := more (L := L236) (h := how) h (by kernel_rfl)
theorem T238 (h : Sums Tryz.prog L237) : Sums Tryz.prog L238 := more (L := L237) (h := how) h (by kernel_rfl)
theorem T188 (h : Sums Tryz.prog L238) : Sums Tryz.prog L188 := more (L := L238) (h := how) h (by kernel_rfl)
theorem Ce_all (h : Sums Tryz.prog L278) : Sums Tryz.prog L188 := T188 (T238 (T237 (T236 (T256 (T258 h)))))
end Go.Proofs.YtgkoghgiclkbhaaGreatDoor.Sx
