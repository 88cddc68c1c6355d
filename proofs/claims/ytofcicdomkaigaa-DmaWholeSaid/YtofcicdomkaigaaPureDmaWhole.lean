/- DmaWhole, the plain part: behind a Write the third cycle copies the first byte and the 162nd the last one, in their order, from its page, and then there is nothing. No condition. -/
import Derived.Test.YtofcicdomkaigaaPlain
namespace Go.Proofs.Ytofcicdomkaigaa.Pure
open Go.RowKit Go.Proofs.Ytofcicdomkaigaa.P Go.Proofs.Ytofcicdomkaigaa.Plain Go.Proofs.YtofcicdomkaigaaW.PrintWords
set_option maxRecDepth 100000

theorem low : ∀ p : Nat, p < 256 → ∀ a : Nat, a < 160 → ¬ S p a ≥ 57344 := by
  intro p hp a ha
  unfold S
  split <;> omega

/-- The end: nothing is copied from cycle 163 on. -/
theorem rest (v : Nat) (d : Nat) : ∀ (k i : Nat), 163 ≤ i → i ≤ 171 → 171 - i = d → 2 * d < k → whirligiglaw19_DmaWhole.l0 k v true (i : Int) false (v : Int) 0 0 (v : Int) = some true := by
  induction d with
  | zero =>
    intro k i h1 h2 h3 h4
    obtain ⟨k, rfl⟩ : ∃ m, k = m + 1 := ⟨k - 1, by omega⟩
    simp only [whirligiglaw19_DmaWhole.l0]
    rw [if_neg (by omega)]
    simp [dma_Read.f]
  | succ d ih =>
    intro k i h1 h2 h3 h4
    obtain ⟨k, rfl⟩ : ∃ m, k = m + 1 + 1 := ⟨k - 2, by omega⟩
    have r := ih k (i + 1) (by omega) (by omega) (by omega) (by omega)
    have c1 : (i : Int) ≤ 170 := by omega
    have c2 : (i : Int) ≥ 3 := by omega
    have c3 : decide ((i : Int) ≤ 162) = false := decide_eq_false (by omega)
    have h3' : (i : Int) + 1 = ((i + 1 : Nat) : Int) := by omega
    have b : i + 1 < 1000000 := by omega
    have e : dma_Step.f false (v : Int) 0 0 (v : Int) = some (false, (v : Int), 0, 0, (v : Int), 0, 0, false) := by
      unfold dma_Step.f
      simp
    have w3 : wrap64 ((i : Int) + 1) = ((i + 1 : Nat) : Int) := w64n h3' b
    simp only [whirligiglaw19_DmaWhole.l0]
    rw [if_pos c1, e]
    simp only [Option.bind_some]
    rw [if_pos c2, c3]
    simp only [whirligiglaw19_DmaWhole.j1, bne_self_eq_false, Bool.false_eq_true, if_false]
    rw [w3]
    exact r

/-- The copying: cycle i copies the byte i - 3. -/
theorem run (v : Nat) (hv : v < 256) (d : Nat) : ∀ (k i : Nat), 3 ≤ i → i ≤ 162 → 162 - i = d → 2 * d + 40 < k → whirligiglaw19_DmaWhole.l0 k v true (i : Int) true (v : Int) ((i - 3 : Nat) : Int) 0 (v : Int) = some true := by
  induction d with
  | zero =>
    intro k i h1 h2 h3 h4
    obtain ⟨k, rfl⟩ : ∃ m, k = m + 1 + 1 := ⟨k - 2, by omega⟩
    obtain rfl : i = 162 := by omega
    have r := rest v 8 k 163 (by omega) (by omega) (by omega) (by omega)
    have e := go_end v v hv
    have es : dma_Source.f (v : Int) 159 = some (S v 159) := source_f v 159 hv (by omega)
    have l := low v hv 159 (by omega)
    have c1 : ((162 : Nat) : Int) = 162 := rfl
    have c2 : ((162 - 3 : Nat) : Int) = 159 := rfl
    have c3 : ((163 : Nat) : Int) = 163 := rfl
    have d1 : decide ((162 : Int) ≤ 162) = true := by decide
    have w1 : wrap64 159 = 159 := by decide +kernel
    have w2 : wrap64 (162 - 3) = 159 := by decide +kernel
    have w3 : wrap64 (162 + 1) = 163 := by decide +kernel
    rw [c3] at r
    simp only [whirligiglaw19_DmaWhole.l0, c1, c2]
    rw [if_pos (by omega), e]
    simp only [Option.bind_some]
    rw [if_pos (by omega), d1]
    simp only [whirligiglaw19_DmaWhole.j1, bne_self_eq_false, Bool.false_eq_true, if_false, if_true, w1, w2, w3, es, Option.bind_some, l]
    exact r
  | succ d ih =>
    intro k i h1 h2 h3 h4
    obtain ⟨k, rfl⟩ : ∃ m, k = m + 1 + 1 := ⟨k - 2, by omega⟩
    have r := ih k (i + 1) (by omega) (by omega) (by omega) (by omega)
    have e := go_on v (i - 3) v hv (by omega)
    have es := source_f v (i - 3) hv (by omega)
    have l := low v hv (i - 3) (by omega)
    have n1 : i - 3 + 1 = i + 1 - 3 := by omega
    rw [n1] at e
    have c1 : (i : Int) ≤ 170 := by omega
    have c2 : (i : Int) ≥ 3 := by omega
    have c3 : decide ((i : Int) ≤ 162) = true := decide_eq_true (by omega)
    have g1 : (i : Int) + 1 = ((i + 1 : Nat) : Int) := by omega
    have g2 : (i : Int) - 3 = ((i - 3 : Nat) : Int) := by omega
    have b1 : i + 1 < 1000000 := by omega
    have b2 : i - 3 < 1000000 := by omega
    have w1 : wrap64 ((i - 3 : Nat) : Int) = ((i - 3 : Nat) : Int) := w64n rfl b2
    have w2 : wrap64 ((i : Int) - 3) = ((i - 3 : Nat) : Int) := w64n g2 b2
    have w3 : wrap64 ((i : Int) + 1) = ((i + 1 : Nat) : Int) := w64n g1 b1
    simp only [whirligiglaw19_DmaWhole.l0]
    rw [if_pos c1, e]
    simp only [Option.bind_some]
    rw [if_pos c2, c3]
    simp only [whirligiglaw19_DmaWhole.j1, bne_self_eq_false, Bool.false_eq_true, if_false, if_true, w1, w2, w3, es, Option.bind_some, l]
    exact r

theorem whole (v : Nat) (hv : v < 256) (k : Nat) (hk : 400 < k) : whirligiglaw19_DmaWhole.f k v = some true := by
  unfold whirligiglaw19_DmaWhole.f
  rw [shown k (by omega)]
  obtain ⟨k, rfl⟩ : ∃ m, k = m + 1 + 1 + 1 + 1 := ⟨k - 4, by omega⟩
  have r := run v hv 159 k 3 (by omega) (by omega) (by omega) (by omega)
  have c3 : ((3 : Nat) : Int) = 3 := rfl
  have c0 : ((3 - 3 : Nat) : Int) = 0 := rfl
  rw [c3, c0] at r
  have w1 : wrap64 (1 + 1) = 2 := by decide +kernel
  have w2 : wrap64 (2 + 1) = 3 := by decide +kernel
  simp only [Option.bind_some, dma_Write.f, whirligiglaw19_DmaWhole.l0, whirligiglaw19_DmaWhole.j1, off_two, off_one, w1, w2]
  simpa using r

theorem DmaWhole : whirligiglaw19_DmaWhole.Pure := by
  intro v ev
  obtain ⟨v, hv, rfl⟩ := u8_nat ev
  exact ⟨401, whole v hv 401 (by omega)⟩

end Go.Proofs.Ytofcicdomkaigaa.Pure
