/- TilesShades, the plain part: a color's shade, and a memory's byte, are the reference's. No condition. -/
import Derived.Test.YtmigbinllnejoaaPx23
import Derived.Test.YtmigbinllnejoaaPlain
namespace Go.Proofs.Ytmigbinllnejoaa.Pure
open Go.RowKit Go.Proofs.Ytmigbinllnejoaa.P Go.Proofs.Ytmigbinllnejoaa.Plain Go.Proofs.YtmigbinllnejoaaW.PrintWords
set_option maxRecDepth 100000

theorem and3 : ∀ c : Nat, c < 256 → Go.bits .and .u8 (c : Int) 3 = ((c % 4 : Nat) : Int) := by decide +kernel
theorem l0_same (c : Nat) : ∀ (k : Nat) (x n : Int), whirligigref17_Shade.l0 k (c : Int) x n = whirligigref17_Shade.l0 k ((c % 4 : Nat) : Int) x n
  | 0, _, _ => by simp only [whirligigref17_Shade.l0]
  | k + 1, x, n => by
    have e : Int.tmod (c : Int) 4 = Int.tmod ((c % 4 : Nat) : Int) 4 := by
      rw [Int.tmod_eq_emod_of_nonneg (by omega), Int.tmod_eq_emod_of_nonneg (by omega)]
      omega
    simp only [whirligigref17_Shade.l0, e]
    simp only [l0_same c k]
theorem shade4 : ∀ c : Nat, c < 4 → ∀ p : Nat, p < 256 → ∃ r : Nat, r < 4 ∧ tiles_Shade.f (p : Int) (c : Int) = some (r : Int) ∧ whirligigref17_Shade.f 6 (p : Int) (c : Int) = some (r : Int) := by decide +kernel
theorem shade (c p : Nat) (hc : c < 256) (hp : p < 256) : ∃ r : Int, tiles_Shade.f (p : Int) (c : Int) = some r ∧ whirligigref17_Shade.f 6 (p : Int) (c : Int) = some r := by
  obtain ⟨r, _, h1, h2⟩ := shade4 (c % 4) (by omega) p hp
  refine ⟨r, ?_, ?_⟩
  · unfold tiles_Shade.f at h1 ⊢
    rw [and3 c hc]
    rw [and3 (c % 4) (by omega)] at h1
    have e : c % 4 % 4 = c % 4 := by omega
    rw [e] at h1
    exact h1
  · unfold whirligigref17_Shade.f at h2 ⊢
    rw [l0_same]
    exact h2
theorem at_some (l : List Int) (i : Int) : ∃ r, tiles_At.f l i = some r ∧ whirligigref17_At.f l i = some r := by
  unfold tiles_At.f whirligigref17_At.f
  by_cases h1 : i < 0
  · rw [if_pos h1]
    exact ⟨_, rfl, rfl⟩
  · by_cases h2 : i ≥ (l.length : Int)
    · rw [if_neg h1, if_pos h2]
      exact ⟨_, rfl, rfl⟩
    · rw [if_neg h1, if_neg h2, if_pos (by omega), if_pos (by omega)]
      exact ⟨_, rfl, rfl⟩

theorem TilesShades : whirligiglaw17_TilesShades.Pure := by
  intro p c l i ep ec _ _ _ _
  obtain ⟨p, hp, rfl⟩ := u8_nat ep
  obtain ⟨c, hc, rfl⟩ := u8_nat ec
  obtain ⟨r, h1, h2⟩ := shade c p hc hp
  obtain ⟨q, h3, h4⟩ := at_some l i
  refine ⟨6, ?_⟩
  unfold whirligiglaw17_TilesShades.f whirligiglaw17_shown.f
  rw [h1, h2, h3, h4]
  simp

end Go.Proofs.Ytmigbinllnejoaa.Pure
