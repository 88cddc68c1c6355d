/- IrqPendings, the plain part: what is pending, and the first of it, are those of the reference. No condition. -/
import Derived.Test.YtbakfomkgahffaaSaidIrqPendings
import Derived.Test.YtbakfomkgahffaaPlain
namespace Go.Proofs.Ytbakfomkgahffaa.Pure
open Go.RowKit Go.Proofs.Ytbakfomkgahffaa.P Go.Proofs.Ytbakfomkgahffaa.Plain

theorem IrqPendings : whirligiglaw14_IrqPendings.Pure := by
  intro a b p ea eb ep
  obtain ⟨a, ha, rfl⟩ := u8_nat ea
  obtain ⟨b, hb, rfl⟩ := u8_nat eb
  obtain ⟨p, hp, rfl⟩ := u8_nat ep
  obtain ⟨m, hm, h1, h2⟩ := first_both p hp
  refine ⟨20, ?_⟩
  unfold whirligiglaw14_IrqPendings.f
  rw [shown, h1, h2, pend a b ha hb, ref_pend a b ha hb]
  simp

end Go.Proofs.Ytbakfomkgahffaa.Pure
