/- BusMeets, the plain part, over the printed functions. No condition. -/
import Derived.Test.YtlfcpmiajcimfaaPx14
import Derived.Test.YtlfcpmiajcimfaaPlain
namespace Go.Proofs.Ytlfcpmiajcimfaa.Pure
open Go.RowKit Go.Proofs.Ytlfcpmiajcimfaa.P Go.Proofs.Ytlfcpmiajcimfaa.Plain
set_option maxRecDepth 100000
set_option maxHeartbeats 2000000

theorem BusMeets : whirligiglaw20_BusMeets.Pure := by
  intro a b c ea eb
  obtain ⟨a, ha, rfl⟩ := u16_nat ea
  obtain ⟨b, hb, rfl⟩ := u16_nat eb
  obtain ⟨l, h1, h2, hl⟩ := line a ha
  obtain ⟨s, h3, h4, _⟩ := line b hb
  unfold whirligiglaw20_BusMeets.f bus_Meets.f whirligigref20_Meets.f
  rw [shown, h1, h2, h3, h4]
  cases c with
  | false => simp
  | true =>
    simp only [Option.bind_some, if_true]
    by_cases e2 : l = 2
    · subst e2
      by_cases e : 2 = s
      · subst e; simp
      · simp [e]
    · have hlt : l < 2 := by omega
      rw [if_neg e2]
      by_cases e : l = s
      · subst e; simp [hlt]
      · simp [e]

end Go.Proofs.Ytlfcpmiajcimfaa.Pure
