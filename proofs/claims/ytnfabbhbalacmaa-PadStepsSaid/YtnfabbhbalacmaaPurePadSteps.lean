/- PadSteps, the plain part: whatever port and keys, a cycle of the program is the reference's. No condition. -/
import Derived.Test.YtnfabbhbalacmaaSaidPadSteps
import Derived.Test.YtnfabbhbalacmaaPlain
namespace Go.Proofs.Ytnfabbhbalacmaa.Pure
open Go.RowKit Go.Proofs.Ytnfabbhbalacmaa.P Go.Proofs.Ytnfabbhbalacmaa.Plain

theorem PadSteps : whirligiglaw13_PadSteps.Pure := by
  intro s l a es el ea
  obtain ⟨s, hs, rfl⟩ := u8_nat es
  obtain ⟨l, hl, rfl⟩ := u8_nat el
  obtain ⟨a, ha, rfl⟩ := u8_nat ea
  obtain ⟨t, ht, h1, h2⟩ := both s a hs ha l l
  refine ⟨12, ?_⟩
  unfold whirligiglaw13_PadSteps.f
  rw [shown, Plain.step s a l t h1, ref_step s a l t ht hl h2]
  simp

end Go.Proofs.Ytnfabbhbalacmaa.Pure
