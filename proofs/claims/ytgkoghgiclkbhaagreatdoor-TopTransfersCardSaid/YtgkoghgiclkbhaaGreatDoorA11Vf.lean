/- The machine's cycles, each by its contract (the others). No condition but the hypotheses that stand in each. -/
import Derived.Test.YtgkoghgiclkbhaaGreatDoorA10Ve
namespace Go.Proofs.YtgkoghgiclkbhaaGreatDoor.Sx
open Go
set_option maxRecDepth 100000
theorem step8_4 : allMC X8 (nth8 4) = true := by kernel_rfl
theorem step8_5 : allMC X8 (nth8 5) = true := by kernel_rfl
theorem step8_6 : allMC X8 (nth8 6) = true := by kernel_rfl
theorem step8_7 : allMC X8 (nth8 7) = true := by kernel_rfl
theorem step8_8 : allMC X8 (nth8 8) = true := by kernel_rfl
theorem step8_9 : allMC X8 (nth8 9) = true := by kernel_rfl
theorem step8_10 : allMC X8 (nth8 10) = true := by kernel_rfl
theorem steps8_ok (h : Sums Tryz.prog L117) : MsOk mcs8 := by
  have hlen : mcs8.length = 11 := by kernel_rfl
  have one : ∀ k, k < 11 → MsOk (nth8 k) := by
    intro k hk
    have : k = 0 ∨ k = 1 ∨ k = 2 ∨ k = 3 ∨ k = 4 ∨ k = 5 ∨ k = 6 ∨ k = 7 ∨ k = 8 ∨ k = 9 ∨ k = 10 := by omega
    rcases this with rfl | rfl | rfl | rfl | rfl | rfl | rfl | rfl | rfl | rfl | rfl
    · exact allMC8_ok h step8_0
    · exact allMC8_ok h step8_1
    · exact allMC8_ok h step8_2
    · exact allMC8_ok h step8_3
    · exact allMC8_ok h step8_4
    · exact allMC8_ok h step8_5
    · exact allMC8_ok h step8_6
    · exact allMC8_ok h step8_7
    · exact allMC8_ok h step8_8
    · exact allMC8_ok h step8_9
    · exact allMC8_ok h step8_10
  intro M hM
  obtain ⟨k, hk⟩ := List.mem_iff_getElem?.1 hM
  have hlt := (List.getElem?_eq_some_iff.1 hk).1
  refine one k (by omega) M ?_
  unfold nth8
  refine List.mem_of_getElem? (i := 0) ?_
  rw [List.getElem?_take_of_lt (by omega), List.getElem?_drop]
  simpa using hk
end Go.Proofs.YtgkoghgiclkbhaaGreatDoor.Sx
