/- BusRegions, the plain part, over the printed functions. No condition. -/
import Derived.Test.YtlfcpmiajcimfaaPx12
import Derived.Test.YtlfcpmiajcimfaaPlain
namespace Go.Proofs.Ytlfcpmiajcimfaa.Pure
open Go.RowKit Go.Proofs.Ytlfcpmiajcimfaa.P Go.Proofs.Ytlfcpmiajcimfaa.Plain
set_option maxRecDepth 100000
set_option maxHeartbeats 2000000

theorem BusRegions : whirligiglaw20_BusRegions.Pure := by
  intro a ea
  obtain ⟨a, ha, rfl⟩ := u16_nat ea
  obtain ⟨F, R, h1, h2, h3, _⟩ := reg a ha
  obtain ⟨l, h4, h5, _⟩ := line a ha
  unfold whirligiglaw20_BusRegions.f
  rw [shown, h2, h3, h4, h5]
  simp

end Go.Proofs.Ytlfcpmiajcimfaa.Pure
