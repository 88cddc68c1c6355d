/- LcdFrames, the plain part: from being switched on, in 70224 dots the picture comes round to where it began, a frame is told once, and each of 144 lines is drawn once, whatever the lines' extra dots are. No condition. -/
import Derived.Test.YtiponhdcjccmaaaPx23
import Derived.Test.YtiponhdcjccmaaaPlain
namespace Go.Proofs.Ytiponhdcjccmaaa.Pure
open Go.RowKit Go.Proofs.Ytiponhdcjccmaaa.P Go.Proofs.Ytiponhdcjccmaaa.Plain Go.Proofs.YtiponhdcjccmaaaW.PrintWords
set_option maxRecDepth 100000

theorem w64 {x : Int} (h0 : -9223372036854775808 ≤ x) (h1 : x ≤ 9223372036854775807) : wrap64 x = x := by unfold wrap64; omega
theorem w64n {x : Int} {n : Nat} (h : x = (n : Int)) (hn : n < 1000000) : wrap64 x = (n : Int) := by
  subst h
  exact w64 (by omega) (by omega)

/-- Is a line drawn by the dot behind place i? -/
def dr (i : Nat) : Bool := decide ((i + 1) / 456 < 144 ∧ (i + 1) % 456 = 80)
def frames (i : Nat) : Nat := if 65664 ≤ i then 1 else 0
def draws (i : Nat) : Nat := min 144 ((i + 376) / 456)
def exx (i : Nat) (ex extra : Int) : Int := if dr i = true then (if 200 < extra then 200 else extra) else ex

theorem draws_next (i : Nat) (h : i < 70224) : draws (i + 1) = if dr i = true then draws i + 1 else draws i := by
  unfold draws dr
  by_cases c : (i + 1) / 456 < 144 ∧ (i + 1) % 456 = 80
  · rw [if_pos (by simpa using c)]
    omega
  · rw [if_neg (by simpa using c)]
    omega
theorem frames_next (i : Nat) : frames (i + 1) = if i = 65663 then frames i + 1 else frames i := by
  unfold frames
  by_cases c : i = 65663
  · subst c
    rfl
  · rw [if_neg c]
    by_cases d : 65664 ≤ i
    · rw [if_pos d, if_pos (by omega)]
    · rw [if_neg d, if_neg (by omega)]

theorem dot_at (i : Nat) (h : i < 70224) (lyc : Int) (sel : Nat) (H : Bool) (ex extra : Int) :
    dotOn (i / 456 % 154) (i % 456) lyc sel H ex extra = tl (((i + 1) / 456 % 154 : Nat) : Int) (((i + 1) % 456 : Nat) : Int) lyc sel H (exx i ex extra) (decide (i = 65663)) (dr i) := by
  unfold dotOn exx
  by_cases c1 : i % 456 < 455
  · have e1 : (i + 1) / 456 % 154 = i / 456 % 154 := by omega
    have e2 : (i + 1) % 456 = i % 456 + 1 := by omega
    have e3 : (((i % 456 + 1 : Nat)) : Int) = ((i % 456 : Nat) : Int) + 1 := by omega
    have e4 : decide (i = 65663) = false := decide_eq_false (by omega)
    rw [if_pos c1, e1, e2, e3, e4]
    by_cases c2 : i / 456 % 154 < 144
    · rw [if_pos c2]
      by_cases c3 : i % 456 + 1 = 80
      · have hd : dr i = true := by
          unfold dr
          exact decide_eq_true (by omega)
        rw [if_pos c3, hd, if_pos rfl]
      · have hd : dr i = false := by
          unfold dr
          exact decide_eq_false (by omega)
        rw [if_neg c3, hd, if_neg (by simp)]
    · have hd : dr i = false := by
        unfold dr
        exact decide_eq_false (by omega)
      rw [if_neg c2, hd, if_neg (by simp)]
  · have e2 : (i + 1) % 456 = 0 := by omega
    have hd : dr i = false := by
      unfold dr
      exact decide_eq_false (by omega)
    have z : ((0 : Nat) : Int) = 0 := rfl
    rw [if_neg c1, e2, hd, z]
    by_cases c5 : i / 456 % 154 < 153
    · have e1 : (i + 1) / 456 % 154 = i / 456 % 154 + 1 := by omega
      have e3 : (((i / 456 % 154 + 1 : Nat)) : Int) = ((i / 456 % 154 : Nat) : Int) + 1 := by omega
      rw [if_pos c5, e1, e3]
      by_cases c6 : i / 456 % 154 + 1 = 144
      · have e4 : decide (i = 65663) = true := decide_eq_true (by omega)
        rw [if_pos c6, e4]
        rfl
      · have e4 : decide (i = 65663) = false := decide_eq_false (by omega)
        rw [if_neg c6, e4]
        rfl
    · have e1 : (i + 1) / 456 % 154 = 0 := by omega
      have e4 : decide (i = 65663) = false := decide_eq_false (by omega)
      rw [if_neg c5, e1, e4]
      rfl

theorem md3 (line : Nat) (hl : line < 144) (ex : Int) (h0 : 0 ≤ ex) (h1 : ex ≤ 200) : md true line 80 ex = 3 := by
  have a : wrap64 80 = 80 := w64 (by omega) (by omega)
  have b : wrap64 ex = ex := w64 (by omega) (by omega)
  have c : wrap64 (252 + ex) = 252 + ex := w64 (by omega) (by omega)
  unfold md
  rw [b, a, c, if_pos rfl, if_neg (by omega), if_neg (by omega), if_pos (by omega)]

theorem exx_bd (i : Nat) (ex extra : Int) (h0 : 0 ≤ ex) (h1 : ex ≤ 200) (h2 : 0 ≤ extra) : 0 ≤ exx i ex extra ∧ exx i ex extra ≤ 200 := by
  unfold exx
  split
  · split <;> omega
  · omega

theorem u16_pos (x : Int) : 0 ≤ IntKind.u16.wrap x := by
  have : IntKind.u16.wrap x = x % 65536 := by simp [IntKind.wrap, IntKind.bits, IntKind.signed]
  rw [this]
  omega

theorem frames_round (x0 lyc : Int) (sel : Nat) (hs : sel < 256) (d : Nat) : ∀ (k i : Nat) (H : Bool) (ex : Int), i ≤ 70224 → 70224 - i = d → 2 * d < k → 0 ≤ ex → ex ≤ 200 →
    whirligiglaw15_LcdFrames.l0 k x0 true (frames i : Nat) (draws i : Nat) (i : Int) true ((i / 456 % 154 : Nat) : Int) ((i % 456 : Nat) : Int) lyc sel H ex = some true := by
  induction d with
  | zero =>
    intro k i H ex h1 h2 h3 h4 h5
    obtain ⟨k, rfl⟩ : ∃ m, k = m + 1 := ⟨k - 1, by omega⟩
    obtain rfl : i = 70224 := by omega
    have e1 : frames 70224 = 1 := rfl
    have e2 : draws 70224 = 144 := by decide
    have e5 : md true ((0 : Nat) : Int) ((0 : Nat) : Int) ex = 2 := by
      unfold md
      rw [if_pos rfl, if_neg (by omega), if_pos (by omega)]
    simp only [whirligiglaw15_LcdFrames.l0]
    rw [if_neg (by omega), e1, e2, mode_eq]
    have z : ((70224 / 456 % 154 : Nat) : Int) = 0 := rfl
    rw [z]
    have e6 : md true 0 0 ex = 2 := e5
    rw [e6]
    simp
  | succ d ih =>
    intro k i H ex h1 h2 h3 h4 h5
    obtain ⟨k, rfl⟩ : ∃ m, k = m + 1 + 1 := ⟨k - 2, by omega⟩
    have hi : i < 70224 := by omega
    have c1 : (i : Int) < 70224 := by omega
    have b := exx_bd i ex (IntKind.u16.wrap (x0 + IntKind.u16.wrap (i : Int))) h4 h5 (u16_pos _)
    have r := ih k (i + 1) (src true (((i + 1) / 456 % 154 : Nat) : Int) (((i + 1) % 456 : Nat) : Int) lyc sel (exx i ex (IntKind.u16.wrap (x0 + IntKind.u16.wrap (i : Int))))) (exx i ex (IntKind.u16.wrap (x0 + IntKind.u16.wrap (i : Int)))) (by omega) (by omega) (by omega) b.1 b.2
    have st := on_eq (k + 1) (by omega) (i / 456 % 154) (i % 456) lyc sel hs H ex (IntKind.u16.wrap (x0 + IntKind.u16.wrap (i : Int)))
    rw [dot_at i hi] at st
    have g1 : (i : Int) + 1 = ((i + 1 : Nat) : Int) := by omega
    have g2 : ((draws i : Nat) : Int) + 1 = ((draws i + 1 : Nat) : Int) := by omega
    have g3 : ((frames i : Nat) : Int) + 1 = ((frames i + 1 : Nat) : Int) := by omega
    have b1 : i + 1 < 1000000 := by omega
    have b2 : draws i + 1 < 1000000 := by unfold draws; omega
    have b3 : frames i + 1 < 1000000 := by unfold frames; split <;> omega
    have dn := draws_next i hi
    have fn := frames_next i
    have fi0 : i = 65663 → (i : Int) = 65663 := by omega
    have h144 : i = 65663 → (i + 1) / 456 % 154 = 144 := by omega
    have hdl : dr i = true → (i + 1) / 456 % 154 < 144 ∧ (i + 1) % 456 = 80 := by
      intro h
      unfold dr at h
      have h' := of_decide_eq_true h
      omega
    have nob : dr i = true → ¬ i = 65663 := by
      intro h e
      have := hdl h
      have := h144 e
      omega
    have w1 : wrap64 ((i : Int) + 1) = ((i + 1 : Nat) : Int) := w64n g1 b1
    have w2 : wrap64 (((draws i : Nat) : Int) + 1) = ((draws i + 1 : Nat) : Int) := w64n g2 b2
    have w3 : wrap64 (((frames i : Nat) : Int) + 1) = ((frames i + 1 : Nat) : Int) := w64n g3 b3
    simp only [whirligiglaw15_LcdFrames.l0]
    rw [if_pos c1, st]
    simp only [Option.bind_some, tl, whirligiglaw15_LcdFrames.j1, mode_eq]
    by_cases f : i = 65663
    · have nd : dr i = false := by
        cases h : dr i with
        | false => rfl
        | true => exact absurd f (nob h)
      have l144 := h144 f
      have fi := fi0 f
      rw [if_pos f] at fn
      rw [nd] at dn
      simp only [Bool.false_eq_true, if_false] at dn
      rw [fn, dn] at r
      have ee : ((144 : Nat) : Int) = 144 := rfl
      rw [l144, ee] at r ⊢
      have fd : decide (i = 65663) = true := decide_eq_true f
      simp only [fd, nd, if_true, if_false, Bool.false_eq_true]
      rw [if_pos fi, w1, w3]
      exact r
    · have fd : decide (i = 65663) = false := decide_eq_false f
      rw [if_neg f] at fn
      rw [fn] at r
      rw [fd]
      cases h : dr i with
      | false =>
        rw [h] at dn
        simp only [Bool.false_eq_true, if_false] at dn
        rw [dn] at r
        simp only [Bool.false_eq_true, if_false]
        rw [w1]
        exact r
      | true =>
        rw [h] at dn
        simp only [if_true] at dn
        rw [dn] at r
        obtain ⟨q1, q2⟩ := hdl h
        have m := md3 _ q1 _ b.1 b.2
        have ee : ((80 : Nat) : Int) = 80 := rfl
        rw [q2, ee] at r ⊢
        simp only [Bool.false_eq_true, if_false, if_true, m]
        rw [w1, w2]
        exact r

theorem frames_all (x0 sel lyc : Int) (s : Nat) (hs : s < 256) (e : sel = (s : Int)) (k : Nat) (hk : 2 * 70224 < k) : whirligiglaw15_LcdFrames.f k x0 sel lyc = some true := by
  subst e
  unfold whirligiglaw15_LcdFrames.f lcd_Power.f
  rw [shown k (by omega), heard_eq k (by omega) true 0 0 lyc s hs false 0]
  simp only [Option.bind_some, hrd]
  have r := frames_round x0 lyc s hs 70224 k 0 (src true 0 0 lyc s 0) 0 (by omega) (by omega) hk (by omega) (by omega)
  have e1 : frames 0 = 0 := rfl
  have e2 : draws 0 = 0 := by decide
  rw [e1, e2] at r
  simpa using r

theorem LcdFrames : whirligiglaw15_LcdFrames.Pure := by
  intro x0 sel lyc _ e2 _
  obtain ⟨s, hs, e⟩ := u8_nat e2
  exact ⟨140449, frames_all x0 sel lyc s hs e 140449 (by omega)⟩

end Go.Proofs.Ytiponhdcjccmaaa.Pure
