/- irq.First's summary. No condition. -/
import Derived.Test.YtgkoghgiclkbhaaGreatDoorA04XaHw
import Derived.Test.YtgkoghgiclkbhaaGreatDoorA28ItFi
namespace Go.Proofs.YtgkoghgiclkbhaaGreatDoor.Sx
open Go
set_option maxRecDepth 100000
theorem bits_head (p : Int) : 0 ≤ (It.bits p 5).headD 0 ∧ (It.bits p 5).headD 0 ≤ 4 := by
  cases h : It.bits p 5 with
  | nil => simp
  | cons a l =>
    have : a ∈ It.bits p 5 := by rw [h]; exact List.mem_cons_self ..
    simp only [It.bits, List.mem_map, List.mem_filter, List.mem_range] at this
    obtain ⟨k, hk, rfl⟩ := this
    simp; omega
theorem L0_ok : Sums Tryz.prog L0 := by
  intro p hp
  rw [L0, List.mem_singleton] at hp
  subst hp
  refine ⟨⟨_, (by kernel_rfl : tblP Tryz.prog 90 = some ((tblP Tryz.prog 90).getD ⟨0, [], .skip⟩))⟩, ?_⟩
  intro w imm vs himm hs
  simp only [SatShL, u8, SatSh] at hs
  obtain ⟨v, vs', rfl, ⟨n, rfl, h1, h2⟩, rfl⟩ := hs
  refine (It.first_calls n w).mono ?_
  rintro e w' ⟨rfl, hB⟩
  have hg : Grown w w' := ⟨hB.size, hB.block, hB.os, hB.output⟩
  refine ⟨_, imm, rfl, hg, fun _ _ h => h, fun b o h => ?_, fun b o h _ => h, ?_⟩
  · have hb := himm b o h
    rw [hg.2.1 b (Array.getElem?_eq_some_iff.1 hb).1]; exact hb
  · simp only [SatSh, SatShL, bo]
    have := bits_head n
    exact ⟨_, rfl, _, _, rfl, ⟨_, rfl, this.1, this.2⟩, _, _, rfl, ⟨_, rfl⟩, rfl⟩
end Go.Proofs.YtgkoghgiclkbhaaGreatDoor.Sx
