/- DmaSources, the plain part: where any byte comes from is the reference's answer. No condition. -/
import Derived.Test.YtofcicdomkaigaaPx
import Derived.Test.YtofcicdomkaigaaPlain
namespace Go.Proofs.Ytofcicdomkaigaa.Pure
open Go.RowKit Go.Proofs.Ytofcicdomkaigaa.P Go.Proofs.Ytofcicdomkaigaa.Plain Go.Proofs.YtofcicdomkaigaaW.PrintWords
set_option maxRecDepth 100000

theorem DmaSources : whirligiglaw19_DmaSources.Pure := by
  intro p a ep ea
  obtain ⟨p, hp, rfl⟩ := u8_nat ep
  obtain ⟨a, ha, rfl⟩ := u8_nat ea
  refine ⟨5, ?_⟩
  unfold whirligiglaw19_DmaSources.f
  rw [shown 5 (by omega), source_f p a hp ha, rsource_f p a hp ha]
  simp

end Go.Proofs.Ytofcicdomkaigaa.Pure
