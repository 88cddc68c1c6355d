/- IrqAsks, the plain part: what is asked for and what is taken are the reference's. No condition. -/
import Derived.Test.YtbakfomkgahffaaSaidIrqAsks
import Derived.Test.YtbakfomkgahffaaPlain
namespace Go.Proofs.Ytbakfomkgahffaa.Pure
open Go.RowKit Go.Proofs.Ytbakfomkgahffaa.P Go.Proofs.Ytbakfomkgahffaa.Plain

theorem IrqAsks : whirligiglaw14_IrqAsks.Pure := by
  intro a b n ea eb en
  obtain ⟨a, ha, rfl⟩ := u8_nat ea
  refine ⟨20, ?_⟩
  by_cases h : 0 ≤ n ∧ n < 5
  · obtain ⟨m, rfl⟩ := Int.eq_ofNat_of_zero_le h.1
    have hm : m < 5 := by omega
    obtain ⟨t, _, h1, h2⟩ := ask_in m hm a ha
    obtain ⟨q, _, h3, h4⟩ := take_in m hm a ha
    have e1 : irq_Ask.f (a : Int) b (m : Int) = some ((t : Int), b) := by
      unfold irq_Ask.f; rw [is_in _ (by omega) (by omega)]; simp only [Option.bind_some, if_true]; rw [if_pos (by omega), h1]
    have e2 : whirligigref14_Ask.f 20 (a : Int) b (m : Int) = some ((t : Int), b) := by
      unfold whirligigref14_Ask.f; rw [if_pos (by omega), if_pos (by omega), h2]; rfl
    have e3 : irq_Take.f (a : Int) b (m : Int) = some ((q : Int), b) := by
      unfold irq_Take.f; rw [is_in _ (by omega) (by omega)]; simp only [Option.bind_some, if_true]; rw [if_pos (by omega), h3]
    have e4 : whirligigref14_Take.f 20 (a : Int) b (m : Int) = some ((q : Int), b) := by
      unfold whirligigref14_Take.f; rw [if_pos (by omega), if_pos (by omega), h4]; rfl
    unfold whirligiglaw14_IrqAsks.f
    rw [shown, e1, e2, e3, e4]
    simp
  · have e1 : irq_Ask.f (a : Int) b n = some ((a : Int), b) := by unfold irq_Ask.f; rw [is_out n (by omega)]; simp
    have e3 : irq_Take.f (a : Int) b n = some ((a : Int), b) := by unfold irq_Take.f; rw [is_out n (by omega)]; simp
    have e2 : whirligigref14_Ask.f 20 (a : Int) b n = some ((a : Int), b) := by
      unfold whirligigref14_Ask.f
      by_cases h0 : n ≥ 0
      · rw [if_pos h0, if_neg (by omega)]
      · rw [if_neg h0]
    have e4 : whirligigref14_Take.f 20 (a : Int) b n = some ((a : Int), b) := by
      unfold whirligigref14_Take.f
      by_cases h0 : n ≥ 0
      · rw [if_pos h0, if_neg (by omega)]
      · rw [if_neg h0]
    unfold whirligiglaw14_IrqAsks.f
    rw [shown, e1, e2, e3, e4]
    simp

end Go.Proofs.Ytbakfomkgahffaa.Pure
