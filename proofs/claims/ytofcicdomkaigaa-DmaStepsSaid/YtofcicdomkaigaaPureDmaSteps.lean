/- DmaSteps, the plain part: any transfer is a cycle later what the reference says. No condition. -/
import Derived.Test.YtofcicdomkaigaaSaidDmaSteps
import Derived.Test.YtofcicdomkaigaaPlain
namespace Go.Proofs.Ytofcicdomkaigaa.Pure
open Go.RowKit Go.Proofs.Ytofcicdomkaigaa.P Go.Proofs.Ytofcicdomkaigaa.Plain Go.Proofs.YtofcicdomkaigaaW.PrintWords
set_option maxRecDepth 100000

theorem DmaSteps : whirligiglaw19_DmaSteps.Pure := by
  intro on p a t n ep ea et en
  obtain ⟨p, hp, rfl⟩ := u8_nat ep
  obtain ⟨a, ha, rfl⟩ := u8_nat ea
  obtain ⟨t, ht, rfl⟩ := u8_nat et
  obtain ⟨n, hn, rfl⟩ := u8_nat en
  obtain ⟨r, h1, h2⟩ := steps_eq on p a t n hp ha ht
  refine ⟨5, ?_⟩
  unfold whirligiglaw19_DmaSteps.f
  rw [shown 5 (by omega), h1, h2]
  simp

end Go.Proofs.Ytofcicdomkaigaa.Pure
