/- DmaWrites, the plain part: what is asked for, and what is read of it, is the reference's answer. No condition. -/
import Derived.Test.YtofcicdomkaigaaSaidDmaWrites
import Derived.Test.YtofcicdomkaigaaPlain
namespace Go.Proofs.Ytofcicdomkaigaa.Pure
open Go.RowKit Go.Proofs.Ytofcicdomkaigaa.P Go.Proofs.Ytofcicdomkaigaa.Plain Go.Proofs.YtofcicdomkaigaaW.PrintWords
set_option maxRecDepth 100000

theorem DmaWrites : whirligiglaw19_DmaWrites.Pure := by
  intro on p a t n v _ _ _ _ _
  refine ⟨5, ?_⟩
  unfold whirligiglaw19_DmaWrites.f
  rw [shown 5 (by omega)]
  simp [dma_Write.f, whirligigref19_Write.f, dma_Read.f, whirligigref19_Read.f]

end Go.Proofs.Ytofcicdomkaigaa.Pure
