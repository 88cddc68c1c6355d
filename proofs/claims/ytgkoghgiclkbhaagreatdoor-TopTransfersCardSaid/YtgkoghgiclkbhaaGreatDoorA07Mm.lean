/- The machine's parts by contracts: its lines, what is read, what the processor does on the bus. No condition but the hypotheses that stand in each. -/
import Derived.Test.YtgkoghgiclkbhaaGreatDoorA04XaHw
namespace Go.Proofs.YtgkoghgiclkbhaaGreatDoor.Sx
open Go
set_option maxRecDepth 100000
theorem rec_ok : MsOk [mcRec] := moreM (L := []) (h := howR) (Sums.nil _) .nil (by kernel_rfl)
theorem read_ok (h : Sums Tryz.prog L117) : MsOk [mcRead, mcRec] := moreM (L := LM) (h := howM) (h.filter _) rec_ok (by kernel_rfl)
end Go.Proofs.YtgkoghgiclkbhaaGreatDoor.Sx
