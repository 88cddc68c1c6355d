/- The processor's ends of cycles. No condition but the hypotheses that stand in each. -/
import Derived.Test.YtgkoghgiclkbhaaGreatDoorA05Vb
namespace Go.Proofs.YtgkoghgiclkbhaaGreatDoor.Sx
open Go
set_option maxRecDepth 100000
theorem dones_a : MsOk ((mcDones cycles).take 4) := allMC_ok (by kernel_rfl)
theorem dones_b : MsOk (((mcDones cycles).drop 4).take 4) := allMC_ok (by kernel_rfl)
theorem dones_c : MsOk (((mcDones cycles).drop 4).drop 4) := allMC_ok (by kernel_rfl)
theorem dones_ok : MsOk (mcDones cycles) := fun M hM => by
  rw [← List.take_append_drop 4 (mcDones cycles), List.mem_append] at hM
  rcases hM with hM | hM
  · exact dones_a M hM
  · rw [← List.take_append_drop 4 ((mcDones cycles).drop 4), List.mem_append] at hM
    rcases hM with hM | hM
    · exact dones_b M hM
    · exact dones_c M hM
theorem cyc_ok : MsOk mcCyc := fun M hM => (List.mem_append.1 hM).elim (wants_ok M) (dones_ok M)
end Go.Proofs.YtgkoghgiclkbhaaGreatDoor.Sx
