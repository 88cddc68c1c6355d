/- BusPlaces, the plain part, over the printed functions. No condition. -/
import Derived.Test.YtlfcpmiajcimfaaPx16
import Derived.Test.YtlfcpmiajcimfaaPlain
namespace Go.Proofs.Ytlfcpmiajcimfaa.Pure
open Go.RowKit Go.Proofs.Ytlfcpmiajcimfaa.P Go.Proofs.Ytlfcpmiajcimfaa.Plain
set_option maxRecDepth 100000
set_option maxHeartbeats 2000000

theorem BusPlaces : whirligiglaw20_BusPlaces.Pure := by
  intro a ea
  obtain ⟨a, ha, rfl⟩ := u16_nat ea
  obtain ⟨F, R, h1, h2, h3, hF, hc⟩ := reg a ha
  unfold whirligiglaw20_BusPlaces.f
  rw [shown, h2]
  simp only [Option.bind_some]
  by_cases hl : a = 65535
  · obtain ⟨rfl, rfl⟩ : F = 65535 ∧ R = 8 := by omega
    subst hl
    rfl
  · rw [if_neg (by omega)]
    have hn : IntKind.u16.wrap ((a : Int) + 1) = ((a + 1 : Nat) : Int) := by
      rw [show IntKind.u16.wrap ((a : Int) + 1) = ((a : Int) + 1) % 65536 by simp [IntKind.wrap, IntKind.bits, IntKind.signed]]
      omega
    rw [hn]
    obtain ⟨G, S, g1, g2, g3, hG, hd⟩ := reg (a + 1) (by omega)
    rw [g2]
    simp only [Option.bind_some, if_true]
    have hw : wrap64 (((a - F : Nat) : Int) + 1) = ((a - F + 1 : Nat) : Int) := by unfold wrap64; omega
    rw [if_pos (by omega), if_pos (by omega), if_pos (by omega), hw]
    by_cases e : S = R
    · rw [if_pos (by omega)]
      by_cases e2 : G = F
      · rw [if_pos (by omega)]
      · have e3 : a + 1 = G ∧ R = 3 ∧ a - F = 8191 := by omega
        rw [if_neg (by omega), if_pos (by omega), if_neg (by omega), if_pos (by omega), if_pos (by omega)]
        simp only [Option.some.injEq, beq_iff_eq]
        omega
    · have e3 : a + 1 = G ∧ S > R := by omega
      rw [if_neg (by omega), if_pos (by omega), if_pos (by omega)]

end Go.Proofs.Ytlfcpmiajcimfaa.Pure
