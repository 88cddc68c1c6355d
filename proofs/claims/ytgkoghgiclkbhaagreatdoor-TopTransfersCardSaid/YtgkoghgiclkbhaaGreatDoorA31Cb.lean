/- Summaries of functions, each asked of the kernel. No condition but the hypotheses that stand in each. -/
import Derived.Test.YtgkoghgiclkbhaaGreatDoorA04XaHw
namespace Go.Proofs.YtgkoghgiclkbhaaGreatDoor.Sx
open Go
set_option maxRecDepth 100000
theorem T155 (h : Sums Tryz.prog L154) : Sums Tryz.prog L155 := more (L := L154) (h := how) h (by kernel_rfl)
theorem T78 (h : Sums Tryz.prog L155) : Sums Tryz.prog L78 := more (L := L155) (h := how) h (by kernel_rfl)
theorem T40 (h : Sums Tryz.prog L78) : Sums Tryz.prog L40 := more (L := L78) (h := how) h (by kernel_rfl)
theorem T100 (h : Sums Tryz.prog L40) : Sums Tryz.prog L100 := more (L := L40) (h := how) h (by kernel_rfl)
theorem T58 (h : Sums Tryz.prog L100) : Sums Tryz.prog L58 := more (L := L100) (h := how) h (by kernel_rfl)
theorem T57 (h : Sums Tryz.prog L58) : Sums Tryz.prog L57 := more (L := L58) (h := how) h (by kernel_rfl)
theorem T80 (h : Sums Tryz.prog L57) : Sums Tryz.prog L80 := more (L := L57) (h := how) h (by kernel_rfl)
theorem T83 (h : Sums Tryz.prog L80) : Sums Tryz.prog L83 := more (L := L80) (h := how) h (by kernel_rfl)
theorem T141 (h : Sums Tryz.prog L83) : Sums Tryz.prog L141 := more (L := L83) (h := how) h (by kernel_rfl)
theorem T163 (h : Sums Tryz.prog L141) : Sums Tryz.prog L163 := more (L := L141) (h := how) h (by kernel_rfl)
theorem T27 (h : Sums Tryz.prog L163) : Sums Tryz.prog L27 := more (L := L163) (h := how) h (by kernel_rfl)
theorem T33 (h : Sums Tryz.prog L27) : Sums Tryz.prog L33 := more (L := L27) (h := how) h (by kernel_rfl)
theorem T34 (h : Sums Tryz.prog L33) : Sums Tryz.prog L34 := more (L := L33) (h := how) h (by kernel_rfl)
theorem T37 (h : Sums Tryz.prog L34) : Sums Tryz.prog L37 := more (L := L34) (h := how) h (by kernel_rfl)
theorem T11 (h : Sums Tryz.prog L37) : Sums Tryz.prog L11 := more (L := L37) (h := how) h (by kernel_rfl)
theorem T28 (h : Sums Tryz.prog L11) : Sums Tryz.prog L28 := more (L := L11) (h := how) h (by kernel_rfl)
theorem T21 (h : Sums Tryz.prog L28) : Sums Tryz.prog L21 := more (L := L28) (h := how) h (by kernel_rfl)
theorem Cb_all (h : Sums Tryz.prog L154) : Sums Tryz.prog L21 := T21 (T28 (T11 (T37 (T34 (T33 (T27 (T163 (T141 (T83 (T80 (T57 (T58 (T100 (T40 (T78 (T155 h))))))))))))))))
end Go.Proofs.YtgkoghgiclkbhaaGreatDoor.Sx
