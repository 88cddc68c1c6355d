/- LcdSteps, the plain part: wherever the picture is, a dot of the program is the reference's. No condition. -/
import Derived.Test.YtiponhdcjccmaaaSaidLcdSteps
import Derived.Test.YtiponhdcjccmaaaPlainS
namespace Go.Proofs.Ytiponhdcjccmaaa.Pure
open Go.RowKit Go.Proofs.Ytiponhdcjccmaaa.P Go.Proofs.Ytiponhdcjccmaaa.Plain Go.Proofs.YtiponhdcjccmaaaW.PrintWords

theorem LcdSteps : whirligiglaw15_LcdSteps.Pure := by
  intro on line dot lyc sel high ex extra e1 e2 e3 e4 e5 e6
  obtain ⟨line, hl, rfl⟩ := u8_nat e1
  obtain ⟨dot, hd, rfl⟩ := u16_nat e2
  obtain ⟨lyc, hy, rfl⟩ := u8_nat e3
  obtain ⟨sel, hs, rfl⟩ := u8_nat e4
  obtain ⟨ex, hx, rfl⟩ := u16_nat e5
  refine ⟨12, ?_⟩
  unfold whirligiglaw15_LcdSteps.f
  rw [shown 12 (by omega)]
  cases on with
  | true =>
    rw [on_eq 12 (by omega) line dot lyc sel hs high ex extra, ron_eq 12 (by omega) line dot hl hd lyc sel hs high ex extra]
    simp
  | false =>
    have a : lcd_Step.f 12 false line dot lyc sel high ex extra = some (false, (line : Int), (dot : Int), (lyc : Int), (sel : Int), high, (ex : Int), false, false, false) := by
      unfold lcd_Step.f
      rw [if_neg (by simp)]
    have b : whirligigref15_Step.f 12 false line dot lyc sel high ex extra = some (false, (line : Int), (dot : Int), (lyc : Int), (sel : Int), high, (ex : Int), false, false, false) := by
      unfold whirligigref15_Step.f
      rw [if_pos (by omega), if_neg (by simp)]
    rw [a, b]
    simp

end Go.Proofs.Ytiponhdcjccmaaa.Pure
