/- BusShuts, the plain part, over the printed functions. No condition. -/
import Derived.Test.YtlfcpmiajcimfaaPx19
import Derived.Test.YtlfcpmiajcimfaaPlain
namespace Go.Proofs.Ytlfcpmiajcimfaa.Pure
open Go.RowKit Go.Proofs.Ytlfcpmiajcimfaa.P Go.Proofs.Ytlfcpmiajcimfaa.Plain
set_option maxRecDepth 100000
set_option maxHeartbeats 2000000

theorem BusShuts : whirligiglaw20_BusShuts.Pure := by
  intro a v o c ea
  obtain ⟨a, ha, rfl⟩ := u16_nat ea
  obtain ⟨F, R, h1, h2, h3, _⟩ := reg a ha
  have e : ∃ b, bus_Shut.f (a : Int) v o c = some b ∧ whirligigref20_Shut.f (a : Int) v o c = some b := by
    unfold bus_Shut.f whirligigref20_Shut.f
    rw [h1, h3]
    simp only [Option.bind_some]
    by_cases e1 : (R : Int) = 1
    · rw [if_pos e1, if_pos e1, if_neg (show ¬ (R : Int) = 4 by omega), if_neg (show ¬ (R : Int) = 5 by omega)]
      cases v <;> simp
    · rw [if_neg e1, if_neg e1]
      by_cases e4 : (R : Int) = 4
      · rw [if_pos e4]
        cases o <;> simp
      · rw [if_neg e4]
        by_cases e5 : (R : Int) = 5
        · rw [if_pos e5]
          cases o <;> simp
        · rw [if_neg e5]
          exact ⟨_, rfl, rfl⟩
  obtain ⟨b, h4, h5⟩ := e
  unfold whirligiglaw20_BusShuts.f
  rw [shown, h4, h5]
  simp

end Go.Proofs.Ytlfcpmiajcimfaa.Pure
