/- LcdWrites, the plain part: what is written at any place, and whether an interrupt comes of it, is the reference's. No condition. -/
import Derived.Test.YtiponhdcjccmaaaSaidLcdWrites
import Derived.Test.YtiponhdcjccmaaaPlainR
namespace Go.Proofs.Ytiponhdcjccmaaa.Pure
open Go.RowKit Go.Proofs.Ytiponhdcjccmaaa.P Go.Proofs.Ytiponhdcjccmaaa.Plain Go.Proofs.YtiponhdcjccmaaaW.PrintWords

set_option maxRecDepth 100000
theorem sel_lt : ∀ v : Nat, v < 256 → ∃ s : Nat, s < 256 ∧ Go.bits .and .u8 (v : Int) 120 = (s : Int) := by decide +kernel

theorem LcdWrites : whirligiglaw15_LcdWrites.Pure := by
  intro on line dot lyc sel high ex addr v e1 e2 e3 e4 e5 e6 e7
  obtain ⟨line, hl, rfl⟩ := u8_nat e1
  obtain ⟨dot, hd, rfl⟩ := u16_nat e2
  obtain ⟨lyc, hy, rfl⟩ := u8_nat e3
  obtain ⟨sel, hs, rfl⟩ := u8_nat e4
  obtain ⟨ex, hx, rfl⟩ := u16_nat e5
  obtain ⟨v, hv, rfl⟩ := u8_nat e7
  obtain ⟨s, hs2, es⟩ := sel_lt v hv
  refine ⟨12, ?_⟩
  unfold whirligiglaw15_LcdWrites.f lcd_Write.f whirligigref15_Write.f
  rw [shown 12 (by omega), ← sel120 v hv, es, heard_eq 12 (by omega) on line dot lyc s hs2 high ex, heard_eq 12 (by omega) on line dot v sel hs high ex, rises_eq 12 (by omega) on line dot lyc s hs2 high ex, rises_eq 12 (by omega) on line dot v sel hs high ex]
  unfold hrd
  by_cases a1 : addr = 65345
  · simp [a1]
  · by_cases a2 : addr = 65349
    · simp [a2]
    · simp [a1, a2]

end Go.Proofs.Ytiponhdcjccmaaa.Pure
