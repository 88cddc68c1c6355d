/- PadHeld, the plain part: whatever port, keys and number of cycles, keys that stay held ask at most once, and once more when let go and held again. No condition. -/
import Derived.Test.YtnfabbhbalacmaaSaidPadHeld
import Derived.Test.YtnfabbhbalacmaaPlain
namespace Go.Proofs.Ytnfabbhbalacmaa.Pure
open Go.RowKit Go.Proofs.Ytnfabbhbalacmaa.P Go.Proofs.Ytnfabbhbalacmaa.Plain

theorem held_round (x1 : Nat) (x2 : Int) (fst : Bool) (s0 l0 s t : Nat) (hs : s < 256) (ht : t < 16) (hx : 0 ≤ x2)
    (h : ∀ l, pad_Lines.f s l x1 = some (t : Int)) (h0 : pad_Lines.f s0 l0 x1 = some (t : Int)) (hf : fst = true → ((t : Int) != 15) = true) (d : Nat) : ∀ (k : Nat) (i : Int), 0 ≤ i → i ≤ Int.tmod x2 20 → Int.tmod x2 20 - i = d → d < k →
    whirligiglaw13_PadHeld.l0 k x1 x2 true fst i s0 l0 s t = some true := by
  have hm : Int.tmod x2 20 = x2 % 20 := by rw [Int.tmod_eq_emod_of_nonneg hx]
  induction d with
  | zero =>
    intro k i h1 h2 h3 h4
    obtain ⟨k, rfl⟩ : ∃ m, k = m + 1 := ⟨k - 1, by omega⟩
    simp only [whirligiglaw13_PadHeld.l0]
    have e1 := free s hs t
    have e2 : pad_Step.f s t 0 = some ((s : Int), 15, fell t 15) := Plain.step s 0 t 15 e1
    have e3 : pad_Step.f s 15 x1 = some ((s : Int), (t : Int), fell 15 t) := Plain.step s x1 15 t (h 15)
    rw [if_neg (by omega), e2]
    simp only [Option.bind_some]
    rw [e3, h0]
    simp only [Option.bind_some]
    rw [fell_free t ht, fell_more t ht]
    cases fst with
    | false => simp
    | true => simp [hf rfl]
  | succ d ih =>
    intro k i h1 h2 h3 h4
    obtain ⟨k, rfl⟩ : ∃ m, k = m + 1 := ⟨k - 1, by omega⟩
    simp only [whirligiglaw13_PadHeld.l0]
    have e2 : pad_Step.f s t x1 = some ((s : Int), (t : Int), fell t t) := Plain.step s x1 t t (h t)
    rw [if_pos (by omega), e2]
    simp only [Option.bind_some]
    rw [fell_self t ht, show (i + 1) % 256 = i + 1 by omega]
    simpa using ih k (i + 1) (by omega) (by omega) (by omega) (by omega)

theorem PadHeld : whirligiglaw13_PadHeld.Pure := by
  intro s l a n es el ea en
  obtain ⟨s, hs, rfl⟩ := u8_nat es
  obtain ⟨l, hl, rfl⟩ := u8_nat el
  obtain ⟨a, ha, rfl⟩ := u8_nat ea
  obtain ⟨n, hn, rfl⟩ := u8_nat en
  obtain ⟨t, ht, h1, _⟩ := both s a hs ha l l
  have hm : Int.tmod (n : Int) 20 = (n : Int) % 20 := by rw [Int.tmod_eq_emod_of_nonneg (by omega)]
  refine ⟨21, ?_⟩
  unfold whirligiglaw13_PadHeld.f
  rw [shown, Plain.step s a l t h1]
  simp only [Option.bind_some]
  refine held_round a n (fell l t) s l s t hs ht (by omega) (fun l' => ?_) h1 (fell_low t ht l hl) ((n % 20 : Nat)) 21 0 (by omega) (by omega) (by omega) (by omega)
  rw [pad_same s hs] at h1 ⊢
  exact h1

end Go.Proofs.Ytnfabbhbalacmaa.Pure
