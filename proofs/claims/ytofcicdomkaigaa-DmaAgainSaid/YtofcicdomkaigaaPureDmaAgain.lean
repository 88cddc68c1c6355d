/- DmaAgain, the plain part: a transfer that is asked for while another one goes on lets that copy two bytes more, and then begins; while another one waits, it begins alone. No condition. -/
import Derived.Test.YtofcicdomkaigaaPx
import Derived.Test.YtofcicdomkaigaaPlain
namespace Go.Proofs.Ytofcicdomkaigaa.Pure
open Go.RowKit Go.Proofs.Ytofcicdomkaigaa.P Go.Proofs.Ytofcicdomkaigaa.Plain Go.Proofs.YtofcicdomkaigaaW.PrintWords
set_option maxRecDepth 100000

/-- The new transfer, from its place i - 2 on. -/
theorem copies (v w n : Nat) (hw : w < 256) (d : Nat) : ∀ (k i : Nat), 2 ≤ i → i ≤ 161 → 161 - i = d → d + 2 < k →
    whirligiglaw19_DmaAgain.l1 k v w true n (i : Int) true (w : Int) ((i - 2 : Nat) : Int) 0 (w : Int) = some true := by
  induction d with
  | zero =>
    intro k i h1 h2 h3 h4
    obtain ⟨k, rfl⟩ : ∃ m, k = m + 1 + 1 := ⟨k - 2, by omega⟩
    obtain rfl : i = 161 := by omega
    have e := go_end w w hw
    have es : dma_Source.f (w : Int) 159 = some (S w 159) := source_f w 159 hw (by omega)
    have c1 : ((161 : Nat) : Int) = 161 := rfl
    have c2 : ((161 - 2 : Nat) : Int) = 159 := rfl
    have w1 : wrap64 159 = 159 := by decide +kernel
    have w2 : wrap64 (161 - 2) = 159 := by decide +kernel
    have w3 : wrap64 (161 + 1) = 162 := by decide +kernel
    simp only [whirligiglaw19_DmaAgain.l1, c1, c2]
    rw [if_pos (by omega), e]
    simp only [Option.bind_some, if_true, w1, w2, w3, es]
    simp
  | succ d ih =>
    intro k i h1 h2 h3 h4
    obtain ⟨k, rfl⟩ : ∃ m, k = m + 1 := ⟨k - 1, by omega⟩
    have r := ih k (i + 1) (by omega) (by omega) (by omega) (by omega)
    have e := go_on w (i - 2) w hw (by omega)
    have es := source_f w (i - 2) hw (by omega)
    have c1 : (i : Int) < 162 := by omega
    have c2 : ¬ (i : Int) < 2 := by omega
    have w1 : wrap64 ((i - 2 : Nat) : Int) = ((i - 2 : Nat) : Int) := w64 (by omega) (by omega)
    have w2 : wrap64 ((i : Int) - 2) = ((i - 2 : Nat) : Int) := by rw [w64 (by omega) (by omega)]; omega
    have w3 : wrap64 ((i : Int) + 1) = ((i + 1 : Nat) : Int) := by rw [w64 (by omega) (by omega)]; omega
    have n1 : i - 2 + 1 = i + 1 - 2 := by omega
    rw [n1] at e
    simp only [whirligiglaw19_DmaAgain.l1]
    rw [if_pos c1, e]
    simp only [Option.bind_some]
    rw [if_neg c2, w1, w2, w3, es]
    simp only [if_true, Option.bind_some]
    exact r

/-- What the first transfer is when m cycles are over. -/
def St (v m : Nat) : Bool × Int × Int × Int × Int :=
  if m = 0 then (false, 0, 0, 2, (v : Int)) else if m = 1 then (false, 0, 0, 1, (v : Int)) else (true, (v : Int), ((m - 2 : Nat) : Int), 0, (v : Int))

theorem first (v w : Nat) (hv : v < 256) (q : Nat) (hq : q ≤ 150) (d : Nat) : ∀ (k m : Nat), m ≤ q → q - m = d → d < k →
    whirligiglaw19_DmaAgain.l0 k v w true (q : Int) (m : Int) (St v m).1 (St v m).2.1 (St v m).2.2.1 (St v m).2.2.2.1 (St v m).2.2.2.2 =
      whirligiglaw19_DmaAgain.l1 (k - d - 1) v w true (q : Int) 0 (St v q).1 (St v q).2.1 (St v q).2.2.1 2 (w : Int) := by
  induction d with
  | zero =>
    intro k m h1 h2 h3
    obtain ⟨k, rfl⟩ : ∃ z, k = z + 1 := ⟨k - 1, by omega⟩
    obtain rfl : m = q := by omega
    simp only [whirligiglaw19_DmaAgain.l0, dma_Write.f]
    rw [if_neg (by omega)]
    simp
  | succ d ih =>
    intro k m h1 h2 h3
    obtain ⟨k, rfl⟩ : ∃ z, k = z + 1 := ⟨k - 1, by omega⟩
    have r := ih k (m + 1) (by omega) (by omega) (by omega)
    have w3 : wrap64 ((m : Int) + 1) = ((m + 1 : Nat) : Int) := by rw [w64 (by omega) (by omega)]; omega
    have n1 : k + 1 - (d + 1) - 1 = k - d - 1 := by omega
    have c1 : (m : Int) < (q : Int) := by omega
    simp only [whirligiglaw19_DmaAgain.l0]
    rw [if_pos c1, w3, n1, ← r]
    by_cases m0 : m = 0
    · subst m0
      have a : St v 0 = (false, 0, 0, 2, (v : Int)) := rfl
      have b : St v (0 + 1) = (false, 0, 0, 1, (v : Int)) := rfl
      rw [a, b, off_two]
      simp
    · by_cases m1 : m = 1
      · subst m1
        have a : St v 1 = (false, 0, 0, 1, (v : Int)) := rfl
        have b : St v (1 + 1) = (true, (v : Int), 0, 0, (v : Int)) := rfl
        rw [a, b, off_one]
        simp
      · have a : St v m = (true, (v : Int), ((m - 2 : Nat) : Int), 0, (v : Int)) := by unfold St; rw [if_neg m0, if_neg m1]
        have b : St v (m + 1) = (true, (v : Int), ((m + 1 - 2 : Nat) : Int), 0, (v : Int)) := by unfold St; rw [if_neg (by omega), if_neg (by omega)]
        have e := go_on v (m - 2) v hv (by omega)
        have n2 : m - 2 + 1 = m + 1 - 2 := by omega
        rw [n2] at e
        rw [a, b, e]
        simp

theorem again (v w : Nat) (hv : v < 256) (hw : w < 256) (q : Nat) (h1 : 1 ≤ q) (hq : q ≤ 150) (k : Nat) (hk : 170 < k) :
    whirligiglaw19_DmaAgain.l1 k v w true (q : Int) 0 (St v q).1 (St v q).2.1 (St v q).2.2.1 2 (w : Int) = some true := by
  obtain ⟨k, rfl⟩ : ∃ z, k = z + 1 + 1 + 1 + 1 := ⟨k - 4, by omega⟩
  have r := copies v w q hw 159 k 2 (by omega) (by omega) (by omega) (by omega)
  have r' : whirligiglaw19_DmaAgain.l1 k v w true q 2 true w 0 0 w = some true := r
  by_cases q1 : q = 1
  · subst q1
    have a : St v 1 = (false, 0, 0, 1, (v : Int)) := rfl
    rw [a]
    have w1 : wrap64 (0 + 1) = 1 := by decide +kernel
    have w2 : wrap64 (1 + 1) = 2 := by decide +kernel
    simp only [whirligiglaw19_DmaAgain.l1, off_two, off_one, Option.bind_some, whirligiglaw19_DmaAgain.j2, w1, w2]
    have c : ((1 : Nat) : Int) = 1 := rfl
    rw [c] at r' ⊢
    simpa using r'
  · have a : St v q = (true, (v : Int), ((q - 2 : Nat) : Int), 0, (v : Int)) := by unfold St; rw [if_neg (by omega), if_neg q1]
    have e1 := go_two v (q - 2) w hv (by omega)
    have e2 := go_one v (q - 2 + 1) w hv (by omega)
    have s1 := source_f v (q - 2) hv (by omega)
    have s2 := source_f v (q - 2 + 1) hv (by omega)
    have h5 : (q : Int) - 2 = ((q - 2 : Nat) : Int) := by omega
    have h6 : ((q - 2 : Nat) : Int) + 0 = ((q - 2 : Nat) : Int) := by omega
    have h7 : ((q - 2 : Nat) : Int) + 1 = ((q - 2 + 1 : Nat) : Int) := by omega
    have b1 : q - 2 < 1000000 := by omega
    have b2 : q - 2 + 1 < 1000000 := by omega
    have c1 : ¬ (q : Int) = 1 := by omega
    have w1 : wrap64 (0 + 1) = 1 := by decide +kernel
    have w2 : wrap64 (1 + 1) = 2 := by decide +kernel
    have w3 : wrap64 ((q - 2 : Nat) : Int) = ((q - 2 : Nat) : Int) := w64n rfl b1
    have w4 : wrap64 ((q - 2 + 1 : Nat) : Int) = ((q - 2 + 1 : Nat) : Int) := w64n rfl b2
    have w5 : wrap64 ((q : Int) - 2) = ((q - 2 : Nat) : Int) := w64n h5 b1
    have w6 : wrap64 (((q - 2 : Nat) : Int) + 0) = ((q - 2 : Nat) : Int) := w64n h6 b1
    have w7 : wrap64 (((q - 2 : Nat) : Int) + 1) = ((q - 2 + 1 : Nat) : Int) := w64n h7 b2
    rw [a]
    simp only [whirligiglaw19_DmaAgain.l1, e1, e2, s1, s2, Option.bind_some, whirligiglaw19_DmaAgain.j2, w1, w2, w3, w4, w5, w6, w7, c1, if_false, if_true]
    by_cases c2 : (q : Int) > 2
    · simp only [c2, if_true]
      simpa using r'
    · simp only [c2, if_false]
      simpa using r'

theorem DmaAgain : whirligiglaw19_DmaAgain.Pure := by
  intro v w n ev ew en
  obtain ⟨v, hv, rfl⟩ := u8_nat ev
  obtain ⟨w, hw, rfl⟩ := u8_nat ew
  obtain ⟨n, hn, rfl⟩ := u8_nat en
  have e : wrap64 (1 + Int.tmod (wrap64 (n : Int)) 150) = ((1 + n % 150 : Nat) : Int) := by
    rw [w64 (x := (n : Int)) (by omega) (by omega), Int.tmod_eq_emod_of_nonneg (by omega), w64 (by omega) (by omega)]
    omega
  have key : ∀ k, 400 ≤ k → whirligiglaw19_DmaAgain.f k v w n = some true := by
    intro k hk
    unfold whirligiglaw19_DmaAgain.f
    rw [shown k (by omega), e]
    simp only [Option.bind_some, dma_Write.f]
    have f := first v w hv (1 + n % 150) (by omega) (1 + n % 150) k 0 (by omega) (by omega) (by omega)
    have a : St v 0 = (false, 0, 0, 2, (v : Int)) := rfl
    rw [a] at f
    exact f.trans (again v w hv hw (1 + n % 150) (by omega) (by omega) _ (by omega))
  exact ⟨400, key 400 (by omega)⟩

end Go.Proofs.Ytofcicdomkaigaa.Pure
