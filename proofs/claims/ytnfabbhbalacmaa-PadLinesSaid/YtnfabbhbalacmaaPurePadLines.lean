/- PadLines, the plain part: whatever port and keys, the lines of the program are those of the reference. No condition. -/
import Derived.Test.YtnfabbhbalacmaaSaidPadLines
import Derived.Test.YtnfabbhbalacmaaPlain
namespace Go.Proofs.Ytnfabbhbalacmaa.Pure
open Go.RowKit Go.Proofs.Ytnfabbhbalacmaa.P Go.Proofs.Ytnfabbhbalacmaa.Plain

theorem PadLines : whirligiglaw13_PadLines.Pure := by
  intro s l a es el ea
  obtain ⟨s, hs, rfl⟩ := u8_nat es
  obtain ⟨a, ha, rfl⟩ := u8_nat ea
  obtain ⟨t, _, h1, h2⟩ := both s a hs ha l l
  refine ⟨12, ?_⟩
  unfold whirligiglaw13_PadLines.f
  rw [shown]
  simp [h1, h2]

end Go.Proofs.Ytnfabbhbalacmaa.Pure
