/- The machine's parts by contracts: what the processor does on the bus. No condition but the hypotheses that stand in each. -/
import Derived.Test.YtgkoghgiclkbhaaGreatDoorA07Mm
namespace Go.Proofs.YtgkoghgiclkbhaaGreatDoor.Sx
open Go
set_option maxRecDepth 100000
theorem act_ok (h : Sums Tryz.prog L117) : MsOk [mcAct, mcRead, mcRec] := moreM (L := LM) (h := howM) (h.filter _) (read_ok h) (by kernel_rfl)
end Go.Proofs.YtgkoghgiclkbhaaGreatDoor.Sx
