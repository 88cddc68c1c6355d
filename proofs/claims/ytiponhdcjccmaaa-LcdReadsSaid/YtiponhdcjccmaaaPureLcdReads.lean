/- LcdReads, the plain part: what is read at any place is the reference's. No condition. -/
import Derived.Test.YtiponhdcjccmaaaSaidLcdReads
import Derived.Test.YtiponhdcjccmaaaPlainM
namespace Go.Proofs.Ytiponhdcjccmaaa.Pure
open Go.RowKit Go.Proofs.Ytiponhdcjccmaaa.P Go.Proofs.Ytiponhdcjccmaaa.Plain Go.Proofs.YtiponhdcjccmaaaW.PrintWords

set_option maxRecDepth 100000
theorem stat : ∀ s : Nat, s < 256 → ∀ m : Nat, m < 4 →
    Go.bits .or .u8 (Go.bits .or .u8 (Go.bits .or .u8 128 (Go.bits .and .u8 (s : Int) 120)) (((m : Int)) % 256)) 4 = (wrap64 ((wrap64 ((wrap64 (128 + (wrap64 ((Int.tmod (wrap64 (Int.tdiv (wrap64 (s : Int)) 8)) 16) * 8)))) + (m : Int))) + 4)) % 256 ∧
    Go.bits .or .u8 (Go.bits .or .u8 128 (Go.bits .and .u8 (s : Int) 120)) (((m : Int)) % 256) = (wrap64 ((wrap64 (128 + (wrap64 ((Int.tmod (wrap64 (Int.tdiv (wrap64 (s : Int)) 8)) 16) * 8)))) + (m : Int))) % 256 := by decide +kernel

theorem LcdReads : whirligiglaw15_LcdReads.Pure := by
  intro on line dot lyc sel high ex addr e1 e2 e3 e4 e5 e6
  obtain ⟨line, hl, rfl⟩ := u8_nat e1
  obtain ⟨dot, hd, rfl⟩ := u16_nat e2
  obtain ⟨lyc, hy, rfl⟩ := u8_nat e3
  obtain ⟨sel, hs, rfl⟩ := u8_nat e4
  obtain ⟨ex, hx, rfl⟩ := u16_nat e5
  refine ⟨12, ?_⟩
  unfold whirligiglaw15_LcdReads.f lcd_Read.f whirligigref15_Read.f
  rw [shown 12 (by omega), mode_eq, rmode_eq]
  obtain ⟨m, hm, em⟩ : ∃ m : Nat, m < 4 ∧ md on line dot ex = (m : Int) := by
    rcases md_cases on line dot ex with h | h | h | h
    · exact ⟨0, by omega, h⟩
    · exact ⟨1, by omega, h⟩
    · exact ⟨2, by omega, h⟩
    · exact ⟨3, by omega, h⟩
  obtain ⟨s1, s2⟩ := stat sel hs m hm
  rw [em]
  simp only [Option.bind_some, if_true]
  rw [s1, s2]
  by_cases a1 : addr = 65345
  · simp only [a1, if_true]
    by_cases h : (line : Int) = (lyc : Int)
    · simp only [h, if_true, Option.bind_some, beq_self_eq_true]
    · simp only [h, if_false, Option.bind_some, beq_self_eq_true]
  · simp only [a1, if_false]
    by_cases a2 : addr = 65348
    · simp only [a2, if_true, Option.bind_some, beq_self_eq_true]
    · simp only [a2, if_false]
      by_cases a3 : addr = 65349
      · simp only [a3, if_true, Option.bind_some, beq_self_eq_true]
      · simp only [a3, if_false, Option.bind_some, beq_self_eq_true]

end Go.Proofs.Ytiponhdcjccmaaa.Pure
