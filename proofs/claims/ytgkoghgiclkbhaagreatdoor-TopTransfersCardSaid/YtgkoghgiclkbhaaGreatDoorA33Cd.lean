/- Summaries of functions, each asked of the kernel. No condition but the hypotheses that stand in each. -/
import Derived.Test.YtgkoghgiclkbhaaGreatDoorA04XaHw
namespace Go.Proofs.YtgkoghgiclkbhaaGreatDoor.Sx
open Go
set_option maxRecDepth 100000
theorem T260 (h : Sums Tryz.prog L23) : Sums Tryz.prog L260 := more (L := L23) (h := how) h (by kernel_rfl)
theorem T261 (h : Sums Tryz.prog L260) : Sums Tryz.prog L261 := more (L := L260) (h := how) h (by kernel_rfl)
theorem T263 (h : Sums Tryz.prog L261) : Sums Tryz.prog L263 := more (L := L261) (h := how) h (by kernel_rfl)
theorem T275 (h : Sums Tryz.prog L263) : Sums Tryz.prog L275 := more (L := L263) (h := how) h (by kernel_rfl)
theorem T240 (h : Sums Tryz.prog L275) : Sums Tryz.prog L240 := more (L := L275) (h := how) h (by kernel_rfl)
theorem T239 (h : Sums Tryz.prog L240) : Sums Tryz.prog L239 := more (L := L240) (h := how) h (by kernel_rfl)
theorem T241 (h : Sums Tryz.prog L239) : Sums Tryz.prog L241 := more (L := L239) (h := how) h (by kernel_rfl)
theorem T259 (h : Sums Tryz.prog L241) : Sums Tryz.prog L259 := more (L := L241) (h := how) h (by kernel_rfl)
theorem T262 (h : Sums Tryz.prog L259) : Sums Tryz.prog L262 := more (L := L259) (h := how) h (by kernel_rfl)
theorem T253 (h : Sums Tryz.prog L262) : Sums Tryz.prog L253 := more (L := L262) (h := how) h (by kernel_rfl)
theorem T234 (h : Sums Tryz.prog L253) : Sums Tryz.prog L234 := more (L := L253) (h := how) h (by kernel_rfl)
theorem T184 (h : Sums Tryz.prog L234) : Sums Tryz.prog L184 := more (L := L234) (h := how) h (by kernel_rfl)
theorem T186 (h : Sums Tryz.prog L184) : Sums Tryz.prog L186 := more (L := L184) (h := how) h (by kernel_rfl)
theorem T278 (h : Sums Tryz.prog L186) : Sums Tryz.prog L278 := more (L := L186) (h := how) h (by kernel_rfl)
theorem Cd_all (h : Sums Tryz.prog L23) : Sums Tryz.prog L278 := T278 (T186 (T184 (T234 (T253 (T262 (T259 (T241 (T239 (T240 (T275 (T263 (T261 (T260 h)))))))))))))
end Go.Proofs.YtgkoghgiclkbhaaGreatDoor.Sx
