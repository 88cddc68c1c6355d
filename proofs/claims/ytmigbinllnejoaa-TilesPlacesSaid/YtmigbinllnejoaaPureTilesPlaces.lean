/- TilesPlaces, the plain part: where a tile's row stands, and which cell is meant, is the reference's answer. No condition. -/
import Derived.Test.YtmigbinllnejoaaPx16
import Derived.Test.YtmigbinllnejoaaPlain
namespace Go.Proofs.Ytmigbinllnejoaa.Pure
open Go.RowKit Go.Proofs.Ytmigbinllnejoaa.P Go.Proofs.Ytmigbinllnejoaa.Plain
set_option maxRecDepth 100000

theorem place8 : ∀ t : Nat, t < 256 → ∀ m : Nat, m < 8 → ∀ b : Bool, (tiles_Place.f (t : Int) b (m : Int)).isSome = true ∧ tiles_Place.f (t : Int) b (m : Int) = whirligigref17_Place.f (t : Int) b (m : Int) := by decide +kernel
theorem place (t : Nat) (ht : t < 256) (b : Bool) (row : Int) : ∃ r : Int, tiles_Place.f (t : Int) b row = some r ∧ whirligigref17_Place.f (t : Int) b row = some r := by
  obtain ⟨hs, he⟩ := place8 t ht (row % 8).toNat (by omega) b
  obtain ⟨r, h1⟩ := Option.isSome_iff_exists.mp hs
  have h2 := he.symm.trans h1
  have em : (((row % 8).toNat : Nat) : Int) = row % 8 := by omega
  rw [em] at h1 h2
  refine ⟨r, ?_, ?_⟩
  · unfold tiles_Place.f at h1 ⊢
    rw [and7] at h1 ⊢
    have e : row % 8 % 8 = row % 8 := by omega
    rw [e] at h1
    exact h1
  · unfold whirligigref17_Place.f at h2 ⊢
    have e1 : Int.tmod (row % 8) 8 = row % 8 := by
      rw [Int.tmod_eq_emod_of_nonneg (by omega)]
      omega
    rw [e1, if_neg (by omega)] at h2
    by_cases h : Int.tmod row 8 < 0
    · have e2 : wrap64 (Int.tmod row 8 + 8) = row % 8 := by
        rw [tmod8] at h ⊢
        by_cases g : 0 ≤ row
        · rw [if_pos g] at h
          omega
        · rw [if_neg g] at h ⊢
          rw [w64 (by omega) (by omega)]
          omega
      rw [if_pos h, e2]
      exact h2
    · have e2 : Int.tmod row 8 = row % 8 := by
        rw [tmod8] at h ⊢
        by_cases g : 0 ≤ row
        · rw [if_pos g]
        · rw [if_neg g] at h ⊢
          omega
      rw [if_neg h, e2]
      exact h2
theorem cell32 : ∀ x : Nat, x < 32 → ∀ y : Nat, y < 32 → ∀ b : Bool, (tiles_Cell.f b ((8 * x : Nat) : Int) ((8 * y : Nat) : Int)).isSome = true ∧ tiles_Cell.f b ((8 * x : Nat) : Int) ((8 * y : Nat) : Int) = whirligigref17_Cell.f b ((8 * x : Nat) : Int) ((8 * y : Nat) : Int) := by decide +kernel
theorem cell (x y : Nat) (hx : x < 256) (hy : y < 256) (b : Bool) : ∃ r : Int, tiles_Cell.f b (x : Int) (y : Int) = some r ∧ whirligigref17_Cell.f b (x : Int) (y : Int) = some r := by
  obtain ⟨hs, he⟩ := cell32 (x / 8) (by omega) (y / 8) (by omega) b
  obtain ⟨r, h1⟩ := Option.isSome_iff_exists.mp hs
  have h2 := he.symm.trans h1
  have ex : ((8 * (x / 8) : Nat) : Int) / 8 = (x : Int) / 8 := by omega
  have ey : ((8 * (y / 8) : Nat) : Int) / 8 = (y : Int) / 8 := by omega
  have wx : wrap64 ((8 * (x / 8) : Nat) : Int) = ((8 * (x / 8) : Nat) : Int) := w64 (by omega) (by omega)
  have wy : wrap64 ((8 * (y / 8) : Nat) : Int) = ((8 * (y / 8) : Nat) : Int) := w64 (by omega) (by omega)
  have vx : wrap64 (x : Int) = (x : Int) := w64 (by omega) (by omega)
  have vy : wrap64 (y : Int) = (y : Int) := w64 (by omega) (by omega)
  refine ⟨r, ?_, ?_⟩
  · unfold tiles_Cell.f at h1 ⊢
    rw [ex, ey] at h1
    exact h1
  · unfold whirligigref17_Cell.f at h2 ⊢
    rw [wx, wy, Int.tdiv_eq_ediv_of_nonneg (Int.natCast_nonneg _), Int.tdiv_eq_ediv_of_nonneg (Int.natCast_nonneg _), ex, ey] at h2
    rw [vx, vy, Int.tdiv_eq_ediv_of_nonneg (Int.natCast_nonneg _), Int.tdiv_eq_ediv_of_nonneg (Int.natCast_nonneg _)]
    exact h2

theorem TilesPlaces : whirligiglaw17_TilesPlaces.Pure := by
  intro t row x y et _ ex ey
  obtain ⟨t, ht, rfl⟩ := u8_nat et
  obtain ⟨x, hx, rfl⟩ := u8_nat ex
  obtain ⟨y, hy, rfl⟩ := u8_nat ey
  obtain ⟨r1, a1, b1⟩ := place t ht false row
  obtain ⟨r2, a2, b2⟩ := place t ht true row
  obtain ⟨r3, a3, b3⟩ := cell x y hx hy false
  obtain ⟨r4, a4, b4⟩ := cell x y hx hy true
  unfold whirligiglaw17_TilesPlaces.f whirligiglaw17_shown.f
  rw [a1, b1, a2, b2, a3, b3, a4, b4]
  simp

end Go.Proofs.Ytmigbinllnejoaa.Pure
