/- SerialReads, the plain part: whatever port and place, what is read is the reference's. No condition. -/
import Derived.Test.YtbceegmpdgadoaaSaidSerialReads
import Derived.Test.YtbceegmpdgadoaaPlain
namespace Go.Proofs.Ytbceegmpdgadoaa.Pure
open Go.RowKit Go.Proofs.Ytbceegmpdgadoaa.P Go.Proofs.Ytbceegmpdgadoaa.Plain Go.Proofs.YtbceegmpdgadoaaW.PrintMore

theorem SerialReads : whirligiglaw12_SerialReads.Pure := by
  intro d c l p a _ ec _ _ _
  obtain ⟨c, hc, rfl⟩ := u8_nat ec
  unfold whirligiglaw12_SerialReads.f whirligigref12_Read.f serial_Read.f
  rw [shown, or126 c hc]
  simp only [Option.bind_some, if_true]
  by_cases h1 : a = 65281
  · simp [h1]
  · by_cases h2 : a = 65282
    · simp [h2]
    · simp [h1, h2]

end Go.Proofs.Ytbceegmpdgadoaa.Pure
