/- SerialSwaps, the plain part: two ports whose lines are joined exchange their bytes, and both ask then. No condition. -/
import Derived.Test.YtbceegmpdgadoaaByte
namespace Go.Proofs.Ytbceegmpdgadoaa.Pure
open Go.RowKit Go.Proofs.Ytbceegmpdgadoaa.P Go.Proofs.Ytbceegmpdgadoaa.Plain Go.Proofs.YtbceegmpdgadoaaW.PrintWords

theorem top_bit (o n j : Nat) (ho : o < 256) (hn : n < 256) (h : j < 8) : decide (((dj o n j : Nat) : Int) > 127) = bt o (7 - j) := by
  rw [← dj_bit o n j ho hn h, Bool.eq_iff_iff]
  simp
  omega

theorem swap_round (a b : Nat) (ha : a < 256) (hb : b < 256) (d : Nat) : ∀ (k i : Nat), i ≤ 1024 → 1024 - i = d → 2 * d < k →
    whirligiglaw12_SerialSwaps.l0 k a b true (if i = 1024 then 1 else 0) (i : Int) ((dj a b (i / 128) : Nat) : Int) (if i = 1024 then 1 else 129) ((8 - i / 128 : Nat) : Int) ((i % 128 : Nat) : Int)
      ((dj b a (i / 128) : Nat) : Int) (if i = 1024 then 0 else 128) ((8 - i / 128 : Nat) : Int) 0 = some true := by
  induction d with
  | zero =>
    intro k i h1 h2 h3
    obtain ⟨k, rfl⟩ : ∃ m, k = m + 1 := ⟨k - 1, by omega⟩
    obtain rfl : i = 1024 := by omega
    simp only [whirligiglaw12_SerialSwaps.l0]
    rw [if_neg (by omega), show 1024 / 128 = 8 from rfl, dj_eight a b, dj_eight b a]
    simp
  | succ d ih =>
    intro k i h1 h2 h3
    obtain ⟨k, rfl⟩ : ∃ m, k = m + 1 + 1 := ⟨k - 2, by omega⟩
    have hi : i < 1024 := by omega
    have hj : i / 128 < 8 := by omega
    simp only [whirligiglaw12_SerialSwaps.l0]
    have t4 : wrap64 ((i : Int) + 1) = ((i + 1 : Nat) : Int) := by
      rw [w64 (by omega) (by omega)]
      omega
    rw [if_pos (show (i : Int) < 1024 by omega), if_neg (show ¬ i = 1024 by omega), if_neg (show ¬ i = 1024 by omega), if_neg (show ¬ i = 1024 by omega)]
    rw [top_bit b a _ hb ha hj, top_bit a b _ ha hb hj, own a b i ha hb hi]
    simp only [Option.bind_some]
    have e7 : (((8 - (i + 1) / 128 : Nat) : Int) != ((8 - i / 128 : Nat) : Int)) = decide (i % 128 = 127) := by
      rw [Bool.eq_iff_iff]
      simp only [bne_iff_ne, ne_eq, decide_eq_true_eq]
      omega
    rw [e7, other b a i hb ha hi]
    simp only [Option.bind_some, whirligiglaw12_SerialSwaps.j1]
    have e5 : ((i : Int) == 1023) = decide (i = 1023) := by
      rw [Bool.eq_iff_iff]
      simp
      omega
    have r := ih k (i + 1) (by omega) (by omega) (by omega)
    rw [e5, t4]
    simp only [bne_self_eq_false, Bool.false_eq_true, if_false]
    by_cases h : i = 1023
    · subst h
      simpa [w64] using r
    · have h' : ¬ i + 1 = 1024 := by omega
      rw [if_neg h', if_neg h', if_neg h'] at r
      simpa [h] using r

theorem swaps_all (a b : Nat) (ha : a < 256) (hb : b < 256) (k : Nat) (hk : 2 * 1024 < k) : whirligiglaw12_SerialSwaps.f k a b = some true := by
  unfold whirligiglaw12_SerialSwaps.f
  rw [shown]
  have w1 : ∀ v : Int, serial_Write.f 0 0 0 0 65281 v = some (v, 0, 0, 0) := fun v => by unfold serial_Write.f; simp
  have e129 : Go.bits .and .u8 129 129 = 129 := by decide +kernel
  have e128 : Go.bits .and .u8 128 129 = 128 := by decide +kernel
  have w2 : ∀ v : Int, serial_Write.f v 0 0 0 65282 129 = some (v, 129, 8, 0) := fun v => by unfold serial_Write.f; simp [e129]
  have w3 : ∀ v : Int, serial_Write.f v 0 0 0 65282 128 = some (v, 128, 8, 0) := fun v => by unfold serial_Write.f; simp [e128]
  simp only [w1, w2, w3, Option.bind_some]
  have r := swap_round a b ha hb 1024 k 0 (by omega) (by omega) hk
  rw [show 0 / 128 = 0 from rfl, dj_zero a b ha hb, dj_zero b a hb ha, if_neg (by omega), if_neg (by omega), if_neg (by omega)] at r
  exact r

theorem SerialSwaps : whirligiglaw12_SerialSwaps.Pure := by
  intro a b ea eb
  obtain ⟨a, ha, rfl⟩ := u8_nat ea
  obtain ⟨b, hb, rfl⟩ := u8_nat eb
  exact ⟨2049, swaps_all a b ha hb 2049 (by omega)⟩

end Go.Proofs.Ytbceegmpdgadoaa.Pure
