/- LcdModes, the plain part: the mode, the line of all sources, and what is locked, are the reference's. No condition. -/
import Derived.Test.YtiponhdcjccmaaaSaidLcdModes
import Derived.Test.YtiponhdcjccmaaaPlainR
namespace Go.Proofs.Ytiponhdcjccmaaa.Pure
open Go.RowKit Go.Proofs.Ytiponhdcjccmaaa.P Go.Proofs.Ytiponhdcjccmaaa.Plain Go.Proofs.YtiponhdcjccmaaaW.PrintWords

theorem LcdModes : whirligiglaw15_LcdModes.Pure := by
  intro on line dot lyc sel high ex e1 e2 e3 e4 e5
  obtain ⟨line, hl, rfl⟩ := u8_nat e1
  obtain ⟨dot, hd, rfl⟩ := u16_nat e2
  obtain ⟨lyc, hy, rfl⟩ := u8_nat e3
  obtain ⟨sel, hs, rfl⟩ := u8_nat e4
  obtain ⟨ex, hx, rfl⟩ := u16_nat e5
  refine ⟨12, ?_⟩
  unfold whirligiglaw15_LcdModes.f lcd_Locks.f whirligigref15_Locks.f
  rw [shown 12 (by omega), mode_eq, rmode_eq, source_eq 12 (by omega) on line dot lyc sel hs high ex, rsource_eq 12 (by omega) on line dot lyc sel hs high ex]
  simp only [Option.bind_some]
  rcases md_cases on line dot ex with h | h | h | h <;> rw [h] <;> simp

end Go.Proofs.Ytiponhdcjccmaaa.Pure
