/- PadReads, the plain part: whatever port, keys and byte, what is read and what is written are the reference's. No condition. -/
import Derived.Test.YtnfabbhbalacmaaSaidPadReads
import Derived.Test.YtnfabbhbalacmaaPlain
namespace Go.Proofs.Ytnfabbhbalacmaa.Pure
open Go.RowKit Go.Proofs.Ytnfabbhbalacmaa.P Go.Proofs.Ytnfabbhbalacmaa.Plain

theorem PadReads : whirligiglaw13_PadReads.Pure := by
  intro s l a v es el ea ev
  obtain ⟨s, hs, rfl⟩ := u8_nat es
  obtain ⟨a, ha, rfl⟩ := u8_nat ea
  obtain ⟨v, hv, rfl⟩ := u8_nat ev
  obtain ⟨t, ht, h1, h2⟩ := both s a hs ha l l
  refine ⟨12, ?_⟩
  unfold whirligiglaw13_PadReads.f pad_Read.f whirligigref13_Read.f pad_Write.f whirligigref13_Write.f
  rw [shown, h1, h2]
  simp only [Option.bind_some, if_true]
  rw [reads s hs t ht, writes v hv]
  simp

end Go.Proofs.Ytnfabbhbalacmaa.Pure
