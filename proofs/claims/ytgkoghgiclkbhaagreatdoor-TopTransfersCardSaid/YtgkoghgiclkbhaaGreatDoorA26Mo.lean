/- The machine's parts by contracts: those that go on by themselves. No condition but the hypotheses that stand in each. -/
import Derived.Test.YtgkoghgiclkbhaaGreatDoorA07Mm
namespace Go.Proofs.YtgkoghgiclkbhaaGreatDoor.Sx
open Go
set_option maxRecDepth 100000
theorem others_ok (h : Sums Tryz.prog L117) : MsOk [mcOthers, mcRec] := moreM (L := LM) (h := howM) (h.filter _) rec_ok (by kernel_rfl)
end Go.Proofs.YtgkoghgiclkbhaaGreatDoor.Sx
