/- Plain facts about the printed functions of layer 14 (irq): no program in sight but the printed Lean functions. No condition but the bounds that stand in each. -/
import Derived.Test.YtbakfomkgahffaaPx15
import Derived.Test.YtbakfomkgahffaaPx18
import Derived.Test.YtbakfomkgahffaaPx22
import Derived.Test.YtbakfomkgahffaaPx27
import Derived.Laws.BitsAllLaws
namespace Go.Proofs.Ytbakfomkgahffaa.Plain
open Go.RowKit Go.Proofs.Ytbakfomkgahffaa.P Go.Proofs.YtbakfomkgahffaaW.PrintWords
set_option maxRecDepth 100000

theorem u8_nat {a : Int} (h : (Lit.int .u8 a).wf = true) : ∃ n : Nat, n < 256 ∧ a = (n : Int) := by
  have hmin : IntKind.u8.min = 0 := rfl
  have hmax : IntKind.u8.max = 255 := rfl
  simp only [Lit.wf, Bool.and_eq_true, decide_eq_true_eq] at h
  exact ⟨a.toNat, by omega, by omega⟩

theorem shown : whirligiglaw14_shown.f = some true := by decide +kernel

theorem first_both : ∀ p : Nat, p < 256 → ∃ m : Nat, m < 5 ∧ irq_First.f (p : Int) = some ((m : Int), decide (p % 32 ≠ 0)) ∧ whirligigref14_First.f 20 (p : Int) = some ((m : Int), decide (p % 32 ≠ 0)) := by decide +kernel

theorem pend (a b : Nat) (ha : a < 256) (hb : b < 256) : irq_Pending.f (a : Int) (b : Int) = some (((a % 32 &&& b % 32 : Nat)) : Int) := by
  have h1 : a &&& b < 256 := Nat.and_lt_two_pow (n := 8) _ hb
  unfold irq_Pending.f
  rw [u8_and_nat a b ha hb, show (31 : Int) = ((31 : Nat) : Int) from rfl, u8_and_nat _ 31 h1 (by omega), show (31 : Nat) = 2 ^ 5 - 1 from rfl, Nat.and_two_pow_sub_one_eq_mod, Nat.and_mod_two_pow]

theorem bit_same : ∀ k : Nat, k < 21 → ∀ n : Nat, n < 5 → ∀ v : Nat, v < 256 → whirligigref01_Bit.f k (v : Int) (n : Int) = whirligigref01_Bit.f k ((v % 32 : Nat) : Int) (n : Int) := by decide +kernel
theorem w1 (n : Nat) (h : n < 5) : wrap64 ((n : Int) + 1) = ((n + 1 : Nat) : Int) := by unfold wrap64; omega
theorem l0_same (a b : Nat) (ha : a < 256) (hb : b < 256) : ∀ k : Nat, k < 21 → ∀ (x : Int) (n : Nat), n ≤ 5 → whirligigref14_Pending.l0 k x (n : Int) (a : Int) (b : Int) = whirligigref14_Pending.l0 k x (n : Int) ((a % 32 : Nat) : Int) ((b % 32 : Nat) : Int)
  | 0, _, _, _, _ => by simp only [whirligigref14_Pending.l0]
  | k + 1, hk, x, n, hn => by
    simp only [whirligigref14_Pending.l0]
    by_cases h : n < 5
    · rw [if_pos (by omega), if_pos (by omega), bit_same k (by omega) n h a ha, bit_same k (by omega) n h b hb, w1 n h]
      simp only [l0_same a b ha hb k (by omega) _ (n + 1) (by omega)]
    · rw [if_neg (by omega), if_neg (by omega)]
theorem ref32 : ∀ a : Nat, a < 32 → ∀ b : Nat, b < 32 → whirligigref14_Pending.f 20 (a : Int) (b : Int) = some ((a &&& b : Nat) : Int) := by decide +kernel
theorem ref_pend (a b : Nat) (ha : a < 256) (hb : b < 256) : whirligigref14_Pending.f 20 (a : Int) (b : Int) = some (((a % 32 &&& b % 32 : Nat)) : Int) := by
  rw [← ref32 (a % 32) (by omega) (b % 32) (by omega)]
  exact l0_same a b ha hb 20 (by omega) 0 0 (by omega)

theorem vec_in : ∀ n : Nat, n < 5 → irq_Vector.f (n : Int) = some (((64 + 8 * n : Nat) : Int), 0) ∧ whirligigref14_Vector.f (n : Int) = some (((64 + 8 * n : Nat) : Int), 0) := by decide +kernel
theorem is_in (n : Int) (h0 : 0 ≤ n) (h5 : n < 5) : irq_is.f n = some true := by
  unfold irq_is.f; rw [if_pos h0, decide_eq_true h5]
theorem is_out (n : Int) (h : n < 0 ∨ 4 < n) : irq_is.f n = some false := by
  unfold irq_is.f
  by_cases h0 : n ≥ 0
  · rw [if_pos h0, decide_eq_false (by omega)]
  · rw [if_neg h0]

theorem ask_in : ∀ n : Nat, n < 5 → ∀ a : Nat, a < 256 → ∃ t : Nat, t < 256 ∧ Go.bits .or .u8 (a : Int) (shl .u8 1 (n : Int)) = (t : Int) ∧ whirligigref01_Put.f 20 (a : Int) (n : Int) true = some (t : Int) := by decide +kernel
theorem take_in : ∀ n : Nat, n < 5 → ∀ a : Nat, a < 256 → ∃ t : Nat, t < 256 ∧ Go.bits .andNot .u8 (a : Int) (shl .u8 1 (n : Int)) = (t : Int) ∧ whirligigref01_Put.f 20 (a : Int) (n : Int) false = some (t : Int) := by decide +kernel

theorem low_read : ∀ a : Nat, a < 256 → Go.bits .or .u8 (Go.bits .and .u8 (a : Int) 31) 224 = (224 + (Int.tmod (a : Int) 32)) % 256 := by decide +kernel
theorem low_write : ∀ a : Nat, a < 256 → Go.bits .and .u8 (a : Int) 31 = Int.tmod (a : Int) 32 := by decide +kernel
end Go.Proofs.Ytbakfomkgahffaa.Plain
