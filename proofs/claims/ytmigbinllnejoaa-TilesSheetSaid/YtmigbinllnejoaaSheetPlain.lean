/- The reference's Color over the bytes of a memory: what it answers in range and out of it. No condition but the bounds that stand in each. -/
import Derived.Test.YtmigbinllnejoaaNewAll
import Derived.Test.YtmigbinllnejoaaPx58
import Derived.Test.YtmigbinllnejoaaPlain
namespace Go.Proofs.Ytmigbinllnejoaa.P
open Go.RowKit Go.Proofs.YtmigbinllnejoaaW.PrintWords Go.Proofs.Ytmigbinllnejoaa.Plain
theorem ref_at (l : List Int) (i : Nat) : whirligigref17_At.f l (i : Int) = some (byteOf l i) := by
  unfold whirligigref17_At.f byteOf
  rw [if_neg (by omega)]
  by_cases h : i < l.length
  · rw [if_neg (by omega), if_pos (by omega), if_pos (by omega), if_pos h]
  · rw [if_pos (by omega), if_neg h]
theorem ref_out (k : Nat) (l : List Int) (t x y : Int) (ho : t < 0 ∨ 384 ≤ t ∨ x < 0 ∨ 7 < x ∨ y < 0 ∨ 7 < y) : whirligigref17_Color.f (k + 1) l t x y = some 0 := by
  have j : whirligigref17_Color.j0 (k + 1) l t x y true = some 0 := rfl
  unfold whirligigref17_Color.f
  rw [j]
  split; · rfl
  split; · rfl
  split; · rfl
  split; · rfl
  split; · rfl
  rw [show decide (y > 7) = true from decide_eq_true (by omega)]
  exact j
theorem ref_in (k : Nat) (l : List Int) (t x y : Nat) (ht : t < 384) (hx : x < 8) (hy : y < 8) (p : Int) (hp : whirligigref17_Pixel.f k (byteOf l (2 * (8 * t + y))) (byteOf l (2 * (8 * t + y) + 1)) (x : Int) = some p) : whirligigref17_Color.f (k + 1) l (t : Int) (x : Int) (y : Int) = some p := by
  unfold whirligigref17_Color.f
  rw [if_neg (by omega), if_neg (by omega), if_neg (by omega), if_neg (by omega), if_neg (by omega), show decide ((y : Int) > 7) = false from decide_eq_false (by omega)]
  have e1 : wrap64 ((wrap64 (16 * (t : Int))) + (wrap64 (2 * (y : Int)))) = ((2 * (8 * t + y) : Nat) : Int) := by
    rw [w64 (x := 16 * (t : Int)) (by omega) (by omega), w64 (x := 2 * (y : Int)) (by omega) (by omega), w64 (by omega) (by omega)]
    omega
  have e2 : wrap64 (((2 * (8 * t + y) : Nat) : Int) + 1) = ((2 * (8 * t + y) + 1 : Nat) : Int) := by
    rw [w64 (by omega) (by omega)]
    omega
  show (if false = true then some 0 else _) = _
  rw [if_neg (by decide), e1, e2, ref_at, ref_at]
  simp only [Option.bind_some]
  rw [hp]
  rfl
end Go.Proofs.Ytmigbinllnejoaa.P
