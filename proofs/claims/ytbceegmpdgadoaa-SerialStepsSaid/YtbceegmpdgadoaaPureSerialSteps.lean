/- SerialSteps, the plain part: whatever port, bit and edge, a cycle of the program is the reference's. No condition. -/
import Derived.Test.YtbceegmpdgadoaaSaidSerialSteps
import Derived.Test.YtbceegmpdgadoaaPlain
namespace Go.Proofs.Ytbceegmpdgadoaa.Pure
open Go.RowKit Go.Proofs.Ytbceegmpdgadoaa.P Go.Proofs.Ytbceegmpdgadoaa.Plain Go.Proofs.YtbceegmpdgadoaaW.PrintMore

theorem SerialSteps : whirligiglaw12_SerialSteps.Pure := by
  intro d c l p b e ed ec el ep
  obtain ⟨d, hd, rfl⟩ := u8_nat ed
  obtain ⟨c, hc, rfl⟩ := u8_nat ec
  obtain ⟨l, hl, rfl⟩ := u8_nat el
  obtain ⟨p, hp, rfl⟩ := u8_nat ep
  refine ⟨2, ?_⟩
  unfold whirligiglaw12_SerialSteps.f
  rw [shown, step_eq d c l p b e hd hc hl hp, ref_eq 0 d c l p b e hd hc hl hp]
  simp

end Go.Proofs.Ytbceegmpdgadoaa.Pure
