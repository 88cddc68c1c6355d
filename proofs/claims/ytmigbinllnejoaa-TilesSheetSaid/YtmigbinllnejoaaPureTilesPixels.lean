/- TilesPixels, the plain part: a pixel is the two bits of its bytes, in the program and in the reference, and the call joined. No condition but the bounds that stand in each. -/
import Derived.Test.YtmigbinllnejoaaPix
import Derived.Test.YtmigbinllnejoaaPlain
namespace Go.Proofs.Ytmigbinllnejoaa.Pure
open Go.RowKit Go.Proofs.Ytmigbinllnejoaa.P Go.Proofs.Ytmigbinllnejoaa.Plain Go.Proofs.YtmigbinllnejoaaW.PrintWords
set_option maxRecDepth 100000

def bt (v s : Nat) : Nat := v / 2 ^ s % 2
theorem bt2 (v s : Nat) : bt v s < 2 := Nat.mod_lt _ (by decide)
theorem bit_prog : ∀ v : Nat, v < 256 → ∀ s : Nat, s < 8 → Go.bits .and .u8 (shr .u8 (v : Int) (s : Int)) 1 = ((bt v s : Nat) : Int) := by decide +kernel
theorem bit_ref : ∀ v : Nat, v < 256 → ∀ s : Nat, s < 8 → whirligigref17_bit.f 20 (v : Int) (s : Int) = some ((bt v s : Nat) : Int) := by decide +kernel
theorem or2 : ∀ x : Nat, x < 2 → ∀ y : Nat, y < 2 → Go.bits .or .u8 (((x : Int) * 2) % 256) (y : Int) = 2 * (x : Int) + (y : Int) := by decide +kernel
theorem sum2 : ∀ x : Nat, x < 2 → ∀ y : Nat, y < 2 → (((2 * (x : Int)) % 256) + (y : Int)) % 256 = 2 * (x : Int) + (y : Int) := by decide +kernel
theorem sub7 (n : Nat) (h : n < 8) : wrap64 (7 - (n : Int)) = ((7 - n : Nat) : Int) := by
  rw [w64 (by omega) (by omega)]
  omega
def pv (lo hi n : Nat) : Int := 2 * ((bt hi (7 - n) : Nat) : Int) + ((bt lo (7 - n) : Nat) : Int)
theorem pix_prog (lo hi n : Nat) (hl : lo < 256) (hh : hi < 256) (hn : n < 8) : tiles_Pixel.f (lo : Int) (hi : Int) (n : Int) = some (pv lo hi n) := by
  have h7 : 7 - n < 8 := by omega
  unfold tiles_Pixel.f
  rw [if_neg (by omega), if_neg (by omega), sub7 n hn, if_pos (by omega), bit_prog hi hh (7 - n) h7, bit_prog lo hl (7 - n) h7, or2 _ (bt2 _ _) _ (bt2 _ _)]
  rfl
theorem pix_ref (lo hi n : Nat) (hl : lo < 256) (hh : hi < 256) (hn : n < 8) : whirligigref17_Pixel.f 21 (lo : Int) (hi : Int) (n : Int) = some (pv lo hi n) := by
  have h7 : 7 - n < 8 := by omega
  have d : decide ((n : Int) > 7) = false := decide_eq_false (by omega)
  unfold whirligigref17_Pixel.f
  rw [if_neg (by omega), d, whirligigref17_Pixel.j0, if_neg (by decide), sub7 n hn, bit_ref hi hh (7 - n) h7, bit_ref lo hl (7 - n) h7]
  simp only [Option.bind_some]
  rw [sum2 _ (bt2 _ _) _ (bt2 _ _)]
  rfl
theorem pix_out (lo hi n : Int) (h : n < 0 ∨ n > 7) : tiles_Pixel.f lo hi n = some 0 ∧ whirligigref17_Pixel.f 21 lo hi n = some 0 := by
  unfold tiles_Pixel.f whirligigref17_Pixel.f
  by_cases h0 : n < 0
  · rw [if_pos h0, if_pos h0, whirligigref17_Pixel.j0, if_pos rfl]
    exact ⟨rfl, rfl⟩
  · have h7 : n > 7 := by omega
    have d : decide (n > 7) = true := decide_eq_true h7
    rw [if_neg h0, if_neg h0, if_pos h7, d, whirligigref17_Pixel.j0, if_pos rfl]
    exact ⟨rfl, rfl⟩
theorem both (lo hi : Nat) (n : Int) (hl : lo < 256) (hh : hi < 256) : ∃ p, tiles_Pixel.f (lo : Int) (hi : Int) n = some p ∧ whirligigref17_Pixel.f 21 (lo : Int) (hi : Int) n = some p := by
  by_cases h : n < 0 ∨ n > 7
  · exact ⟨0, pix_out _ _ n h⟩
  · have e : n = ((n.toNat : Nat) : Int) := by omega
    have hn : n.toNat < 8 := by omega
    rw [e]
    exact ⟨_, pix_prog lo hi _ hl hh hn, pix_ref lo hi _ hl hh hn⟩
theorem TilesPixels_calls (a0 a1 a2 : Int) (w : World) (e0 : (Lit.int .u8 a0).wf = true) (e1 : (Lit.int .u8 a1).wf = true) (_e2 : (Lit.int .i64 a2).wf = true) :
    Calls Try.prog 3 #[.int .u8 a0, .int .u8 a1, .int .i64 a2] w fun e w' => e = .returned (.bool true) ∧ Below w.heap.size w w' := by
  obtain ⟨a, ha, rfl⟩ := u8_nat e0
  obtain ⟨b, hb, rfl⟩ := u8_nat e1
  obtain ⟨p, h1, h2⟩ := both a b a2 ha hb
  refine pixels_walk _ _ _ p w 21 rfl h1 h2 fun n _ _ => ?_
  obtain ⟨r, k1, k2⟩ := both a b n ha hb
  rw [k2]
  unfold px
  rw [k1]
  rfl
end Go.Proofs.Ytmigbinllnejoaa.Pure
