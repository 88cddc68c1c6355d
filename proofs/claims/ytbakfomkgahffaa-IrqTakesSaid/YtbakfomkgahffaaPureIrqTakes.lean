/- IrqTakes, the plain part: what was asked for is pending till it is taken; the first of what is pending has none ahead of it; vectors are eight apart. No condition. -/
import Derived.Test.YtbakfomkgahffaaSaidIrqTakes
import Derived.Test.YtbakfomkgahffaaPlain
namespace Go.Proofs.Ytbakfomkgahffaa.Pure
open Go.RowKit Go.Proofs.Ytbakfomkgahffaa.P Go.Proofs.Ytbakfomkgahffaa.Plain Go.Proofs.YtbakfomkgahffaaW.PrintWords
set_option maxRecDepth 100000
set_option maxHeartbeats 2000000

theorem five : ∀ n : Nat, n < 256 → wrap64 (Int.tmod (n : Int) 5) = ((n % 5 : Nat) : Int) := by decide +kernel
theorem one_shl : ∀ k : Nat, k < 5 → shl .u8 1 (k : Int) = ((2 ^ k : Nat) : Int) := by decide +kernel
theorem pow_lt : ∀ k : Nat, k < 5 → 2 ^ k < 32 := by decide
/-- What is pending behind the asking, and behind the taking. -/
def pA (a b k : Nat) : Nat := (a ||| 2 ^ k) % 32 &&& b % 32
def pB (a b k : Nat) : Nat := ((a ||| 2 ^ k) &&& (255 - 2 ^ k)) % 32 &&& b % 32
theorem pA_low (a b k : Nat) : pA a b k = pA (a % 32) (b % 32) k := by
  unfold pA
  rw [show (32 : Nat) = 2 ^ 5 from rfl]
  simp only [Nat.or_mod_two_pow, Nat.mod_mod]
theorem pB_low (a b k : Nat) : pB a b k = pB (a % 32) (b % 32) k := by
  unfold pB
  rw [show (32 : Nat) = 2 ^ 5 from rfl]
  simp only [Nat.and_mod_two_pow, Nat.or_mod_two_pow, Nat.mod_mod]
theorem pA_lt (a b k : Nat) : pA a b k < 32 := Nat.and_lt_two_pow (n := 5) _ (by omega)
theorem pB_lt (a b k : Nat) : pB a b k < 32 := Nat.and_lt_two_pow (n := 5) _ (by omega)
theorem all32 : ∀ a : Nat, a < 32 → ∀ b : Nat, b < 32 → ∀ k : Nat, k < 5 →
    Go.bits .or .u8 (pA a b k : Int) (shl .u8 1 (k : Int)) = Go.bits .or .u8 (pB a b k : Int) (shl .u8 1 (k : Int)) ∧
    Go.bits .and .u8 (shr .u8 (pB a b k : Int) (k : Int)) 1 = 0 ∧ Go.bits .and .u8 (shr .u8 (pA a b k : Int) (k : Int)) 1 = Go.bits .and .u8 (shr .u8 (b : Int) (k : Int)) 1 := by decide +kernel
theorem ie_low : ∀ b : Nat, b < 256 → ∀ k : Nat, k < 5 → Go.bits .and .u8 (shr .u8 (b : Int) (k : Int)) 1 = Go.bits .and .u8 (shr .u8 ((b % 32 : Nat) : Int) (k : Int)) 1 := by decide +kernel
theorem first32 : ∀ p : Nat, p < 32 → ∃ m : Nat, m < 5 ∧ irq_First.f (p : Int) = some ((m : Int), decide (p ≠ 0)) ∧ (∀ i : Nat, i < m → Go.bits .and .u8 (shr .u8 (p : Int) (i : Int)) 1 = 0) ∧ (p ≠ 0 → Go.bits .and .u8 (shr .u8 (p : Int) (m : Int)) 1 = 1) := by decide +kernel
theorem last (k m p : Nat) (hk : k < 5) (hm : m < 5) (z : ∀ i : Nat, i < m → Go.bits .and .u8 (shr .u8 (p : Int) (i : Int)) 1 = 0) (f : p ≠ 0 → Go.bits .and .u8 (shr .u8 (p : Int) (m : Int)) 1 = 1) :
    ∀ (d i K : Nat), i + d = m → d < K → whirligiglaw14_IrqTakes.l0 K true (k : Int) (p : Int) (m : Int) (decide (p ≠ 0)) ((64 + 8 * k : Nat) : Int) 0 (i : Int) = some true
  | _, _, 0, _, h => by omega
  | 0, i, K + 1, e, _ => by
    obtain rfl : i = m := by omega
    have h1 : wrap64 ((64 + 8 * k : Nat) : Int) = wrap64 (64 + (wrap64 (8 * (k : Int)))) := by unfold wrap64; omega
    simp only [whirligiglaw14_IrqTakes.l0]
    rw [if_neg (by omega), if_pos trivial]
    by_cases hp : p = 0
    · rw [if_neg (by simp [hp]), if_pos h1]; rfl
    · rw [if_pos (by simp [hp]), if_pos (by omega), if_pos (by omega), if_pos (f hp), if_pos h1]; rfl
  | d + 1, i, K + 1, e, h => by
    simp only [whirligiglaw14_IrqTakes.l0]
    rw [if_pos (by omega), if_pos (by omega), if_pos (z i (by omega)), show wrap64 ((i : Int) + 1) = ((i + 1 : Nat) : Int) by unfold wrap64; omega]
    exact last k m p hk hm z f d (i + 1) K (by omega) (by omega)

theorem IrqTakes : whirligiglaw14_IrqTakes.Pure := by
  intro a b n ea eb en
  obtain ⟨a, ha, rfl⟩ := u8_nat ea
  obtain ⟨b, hb, rfl⟩ := u8_nat eb
  obtain ⟨n, hn, rfl⟩ := u8_nat en
  obtain ⟨k, hk, ek⟩ : ∃ k : Nat, k < 5 ∧ n % 5 = k := ⟨n % 5, by omega, rfl⟩
  have e5 := five n hn
  rw [ek] at e5
  have hpw := pow_lt k hk
  have hor : a ||| 2 ^ k < 256 := Nat.or_lt_two_pow (n := 8) ha (by omega)
  have e1 : irq_Ask.f (a : Int) (b : Int) (k : Int) = some (((a ||| 2 ^ k : Nat) : Int), (b : Int)) := by
    unfold irq_Ask.f; rw [is_in _ (by omega) (by omega)]; simp only [Option.bind_some, if_true]; rw [if_pos (by omega), one_shl k hk, u8_or_nat a _ ha (by omega)]
  have hand : (a ||| 2 ^ k) &&& (255 - 2 ^ k) < 256 := Nat.and_lt_two_pow (n := 8) _ (Nat.lt_of_le_of_lt (Nat.sub_le _ _) (by decide))
  have e2 : irq_Take.f ((a ||| 2 ^ k : Nat) : Int) (b : Int) (k : Int) = some ((((a ||| 2 ^ k) &&& (255 - 2 ^ k) : Nat) : Int), (b : Int)) := by
    unfold irq_Take.f; rw [is_in _ (by omega) (by omega)]; simp only [Option.bind_some, if_true]; rw [if_pos (by omega), one_shl k hk, u8_andNot_nat _ _ hor (by omega)]
  have e3 : irq_Pending.f ((a ||| 2 ^ k : Nat) : Int) (b : Int) = some ((pA a b k : Nat) : Int) := pend _ _ hor hb
  have e4 : irq_Pending.f (((a ||| 2 ^ k) &&& (255 - 2 ^ k) : Nat) : Int) (b : Int) = some ((pB a b k : Nat) : Int) := pend _ _ hand hb
  obtain ⟨m, hm, f1, f2, f3⟩ := first32 (pA a b k) (pA_lt a b k)
  obtain ⟨g1, g2, g3⟩ := all32 (a % 32) (by omega) (b % 32) (by omega) k hk
  rw [← pA_low, ← pB_low] at g1
  rw [← pB_low] at g2
  rw [← pA_low, ← ie_low b hb k hk] at g3
  refine ⟨7, ?_⟩
  unfold whirligiglaw14_IrqTakes.f
  rw [shown, e5, e1]
  simp only [Option.bind_some]
  rw [e2]
  simp only [Option.bind_some]
  rw [e3, e4, (vec_in k hk).1]
  simp only [Option.bind_some]
  rw [f1]
  simp only [Option.bind_some]
  have hne : (decide (pA a b k ≠ 0) != (((pA a b k : Nat) : Int) != 0)) = false := by
    by_cases h : pA a b k = 0
    · rw [h]; rfl
    · have : (((pA a b k : Nat) : Int) != 0) = true := by simp [bne, h]
      rw [this, decide_eq_true h]; rfl
  rw [if_pos (by omega), if_pos g1, if_pos g2, if_pos g3, if_neg (by rw [hne]; decide), if_pos trivial]
  have hb2 : ((b : Int) != (b : Int)) = false := by simp
  rw [hb2]
  simp only [whirligiglaw14_IrqTakes.j0]
  rw [if_neg (by decide)]
  exact last k m (pA a b k) hk hm f2 f3 m 0 6 (by omega) (by omega)

end Go.Proofs.Ytbakfomkgahffaa.Pure
