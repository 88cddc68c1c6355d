/- Plain facts about the printed functions of layer 15 (lcd): the reference's dot. No program in sight but the Lean functions; no condition but the bounds that stand in each. -/
import Derived.Test.YtiponhdcjccmaaaPlainR
import Derived.Test.YtiponhdcjccmaaaPx14
namespace Go.Proofs.Ytiponhdcjccmaaa.Plain
open Go.RowKit Go.Proofs.Ytiponhdcjccmaaa.P Go.Proofs.YtiponhdcjccmaaaW.PrintWords
set_option maxRecDepth 100000

theorem rtail_eq (k : Nat) (hk : 9 ≤ k) (line dot lyc : Int) (sel : Nat) (hs : sel < 256) (high : Bool) (ex : Int) (fr dr : Bool) : whirligigref15_Step.tail k line dot lyc sel high ex fr dr = some (tl line dot lyc sel high ex fr dr) := by
  unfold whirligigref15_Step.tail tl
  rw [rises_eq k hk true line dot lyc sel hs high ex]
  rfl

theorem ron_eq (k : Nat) (hk : 9 ≤ k) (line dot : Nat) (hl : line < 256) (hd : dot < 65536) (lyc : Int) (sel : Nat) (hs : sel < 256) (high : Bool) (ex extra : Int) : whirligigref15_Step.f k true line dot lyc sel high ex extra = some (dotOn line dot lyc sel high ex extra) := by
  unfold whirligigref15_Step.f dotOn
  rw [if_pos (by omega), if_pos rfl]
  simp only [rtail_eq k hk _ _ lyc sel hs high]
  by_cases c1 : dot < 455
  · have c1' : (dot : Int) < 455 := by omega
    rw [if_pos c1', if_pos c1]
    have z : ((dot : Int) + 1 == 0) = false := beq_eq_false_iff_ne.mpr (by omega)
    by_cases c2 : line < 144
    · have c2' : (line : Int) < 144 := by omega
      rw [if_pos c2', if_pos c2]
      by_cases c3 : dot + 1 = 80
      · have c3' : ((dot : Int) + 1 == 80) = true := beq_iff_eq.mpr (by omega)
        rw [if_pos c3', if_pos c3]
        by_cases c4 : 200 < extra <;> simp [c4]
      · have c3' : ¬ ((dot : Int) + 1 == 80) = true := by simp; omega
        rw [if_neg c3', if_neg c3]
    · have c2' : ¬ (line : Int) < 144 := by omega
      rw [if_neg c2', if_neg c2, z]
      split <;> rfl
  · have c1' : ¬ (dot : Int) < 455 := by omega
    rw [if_neg c1', if_neg c1]
    by_cases c5 : line < 153
    · have c5' : (line : Int) < 153 := by omega
      rw [if_pos c5', if_pos c5]
      by_cases c2 : line + 1 = 144
      · have c2' : ¬ (line : Int) + 1 < 144 := by omega
        have c3' : ((line : Int) + 1 == 144) = true := beq_iff_eq.mpr (by omega)
        rw [if_neg c2', if_pos c3', if_pos c2]
      · have c3' : ¬ ((line : Int) + 1 == 144) = true := by simp; omega
        rw [if_neg c2, if_neg c3']
        split <;> rfl
    · have c5' : ¬ (line : Int) < 153 := by omega
      rw [if_neg c5', if_neg c5]

end Go.Proofs.Ytiponhdcjccmaaa.Plain
