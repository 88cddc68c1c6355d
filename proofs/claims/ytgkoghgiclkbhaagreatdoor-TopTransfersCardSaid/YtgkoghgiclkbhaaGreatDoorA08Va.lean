/- The machine's parts that go on by themselves let the processor be. No condition but the hypotheses that stand in each. -/
import Derived.Test.YtgkoghgiclkbhaaGreatDoorA07Mm
import Derived.Test.YtgkoghgiclkbhaaGreatDoorA04XaHw
namespace Go.Proofs.YtgkoghgiclkbhaaGreatDoor.Sx
open Go
set_option maxRecDepth 100000
theorem othersC_ok (h : Sums Tryz.prog L117) : MsOk [mcOthersC, mcRec] := moreM (L := LM) (h := howM) (h.filter _) rec_ok (by kernel_rfl)
end Go.Proofs.YtgkoghgiclkbhaaGreatDoor.Sx
