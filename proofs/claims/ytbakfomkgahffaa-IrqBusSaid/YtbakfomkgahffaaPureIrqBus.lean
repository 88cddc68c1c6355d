/- IrqBus, the plain part: what is read and what is written are the reference's. No condition. -/
import Derived.Test.YtbakfomkgahffaaSaidIrqBus
import Derived.Test.YtbakfomkgahffaaPlain
namespace Go.Proofs.Ytbakfomkgahffaa.Pure
open Go.RowKit Go.Proofs.Ytbakfomkgahffaa.P Go.Proofs.Ytbakfomkgahffaa.Plain

theorem IrqBus : whirligiglaw14_IrqBus.Pure := by
  intro a b ad v ea eb ead ev
  obtain ⟨a, ha, rfl⟩ := u8_nat ea
  obtain ⟨v, hv, rfl⟩ := u8_nat ev
  have e1 : ∃ t, irq_Read.f (a : Int) b ad = some t ∧ whirligigref14_Read.f (a : Int) b ad = some t := by
    unfold irq_Read.f whirligigref14_Read.f
    by_cases h1 : ad = 65295
    · rw [if_pos h1, if_pos h1, low_read a ha]; exact ⟨_, rfl, rfl⟩
    · rw [if_neg h1, if_neg h1]
      by_cases h2 : ad = 65535
      · rw [if_pos h2]; exact ⟨_, rfl, rfl⟩
      · rw [if_neg h2]; exact ⟨_, rfl, rfl⟩
  have e2 : ∃ t, irq_Write.f (a : Int) b ad (v : Int) = some t ∧ whirligigref14_Write.f (a : Int) b ad (v : Int) = some t := by
    unfold irq_Write.f whirligigref14_Write.f
    by_cases h1 : ad = 65295
    · rw [if_pos h1, if_pos h1, low_write v hv]; exact ⟨_, rfl, rfl⟩
    · rw [if_neg h1, if_neg h1]
      by_cases h2 : ad = 65535
      · rw [if_pos h2]; exact ⟨_, rfl, rfl⟩
      · rw [if_neg h2]; exact ⟨_, rfl, rfl⟩
  obtain ⟨t, h1, h2⟩ := e1
  obtain ⟨q, h3, h4⟩ := e2
  unfold whirligiglaw14_IrqBus.f
  rw [shown, h1, h2, h3, h4]
  simp

end Go.Proofs.Ytbakfomkgahffaa.Pure
