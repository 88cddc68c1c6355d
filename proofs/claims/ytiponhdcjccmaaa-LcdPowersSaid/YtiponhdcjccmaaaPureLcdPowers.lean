/- LcdPowers, the plain part: what is switched on, or off, is the reference's. No condition. -/
import Derived.Test.YtiponhdcjccmaaaSaidLcdPowers
import Derived.Test.YtiponhdcjccmaaaPlainR
namespace Go.Proofs.Ytiponhdcjccmaaa.Pure
open Go.RowKit Go.Proofs.Ytiponhdcjccmaaa.P Go.Proofs.Ytiponhdcjccmaaa.Plain Go.Proofs.YtiponhdcjccmaaaW.PrintWords

theorem src_off (line dot lyc : Int) (sel : Nat) (ex : Int) : src false line dot lyc sel ex = false := by
  unfold src
  simp

theorem LcdPowers : whirligiglaw15_LcdPowers.Pure := by
  intro on line dot lyc sel high ex tw e1 e2 e3 e4 e5
  obtain ⟨line, hl, rfl⟩ := u8_nat e1
  obtain ⟨dot, hd, rfl⟩ := u16_nat e2
  obtain ⟨lyc, hy, rfl⟩ := u8_nat e3
  obtain ⟨sel, hs, rfl⟩ := u8_nat e4
  obtain ⟨ex, hx, rfl⟩ := u16_nat e5
  refine ⟨12, ?_⟩
  unfold whirligiglaw15_LcdPowers.f lcd_Power.f whirligigref15_Power.f
  rw [shown 12 (by omega), heard_eq 12 (by omega) tw 0 0 lyc sel hs high 0, rises_eq 12 (by omega) tw 0 0 lyc sel hs high 0]
  unfold hrd
  cases on <;> cases tw <;> simp [src_off]

end Go.Proofs.Ytiponhdcjccmaaa.Pure
