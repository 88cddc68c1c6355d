/- IrqVectors, the plain part: where an interrupt leads is what the reference says. No condition. -/
import Derived.Test.YtbakfomkgahffaaPx18
import Derived.Test.YtbakfomkgahffaaPlain
namespace Go.Proofs.Ytbakfomkgahffaa.Pure
open Go.RowKit Go.Proofs.Ytbakfomkgahffaa.P Go.Proofs.Ytbakfomkgahffaa.Plain

theorem IrqVectors : whirligiglaw14_IrqVectors.Pure := by
  intro n en
  unfold whirligiglaw14_IrqVectors.f
  rw [shown]
  by_cases h : 0 ≤ n ∧ n < 5
  · obtain ⟨m, rfl⟩ := Int.eq_ofNat_of_zero_le h.1
    have := vec_in m (by omega)
    rw [this.1, this.2]
    simp
  · have e1 : irq_Vector.f n = some (0, 1) := by unfold irq_Vector.f; rw [is_out n (by omega)]; rfl
    have e2 : whirligigref14_Vector.f n = some (0, 1) := by
      unfold whirligigref14_Vector.f
      by_cases h0 : n < 0
      · rw [if_pos h0]
      · rw [if_neg h0, if_pos (by omega)]
    rw [e1, e2]
    simp

end Go.Proofs.Ytbakfomkgahffaa.Pure
