/- Plain facts on numbers for layer 17 (tiles). No program in sight; no condition but the bounds that stand in each. -/
import Derived.Test.YtmigbinllnejoaaPx0
namespace Go.Proofs.Ytmigbinllnejoaa.Plain
open Go.RowKit Go.Proofs.YtmigbinllnejoaaW.PrintWords
set_option maxRecDepth 100000

theorem u8_nat {a : Int} (h : (Lit.int .u8 a).wf = true) : ∃ n : Nat, n < 256 ∧ a = (n : Int) := by
  have hmin : IntKind.u8.min = 0 := rfl
  have hmax : IntKind.u8.max = 255 := rfl
  simp only [Lit.wf, Bool.and_eq_true, decide_eq_true_eq] at h
  exact ⟨a.toNat, by omega, by omega⟩
theorem w64 {x : Int} (h0 : -9223372036854775808 ≤ x) (h1 : x ≤ 9223372036854775807) : wrap64 x = x := by unfold wrap64; omega

theorem and7 (x : Int) : Go.bits .and .i64 x 7 = x % 8 := by
  show IntKind.i64.wrap (((BitVec.ofInt 64 x &&& BitVec.ofInt 64 7).toNat : Nat) : Int) = x % 8
  have e : (BitVec.ofInt 64 7).toNat = 7 := rfl
  rw [BitVec.toNat_and, e, BitVec.toNat_ofInt]
  have f : (x % ((2 ^ 64 : Nat) : Int)).toNat &&& 7 = (x % ((2 ^ 64 : Nat) : Int)).toNat % 8 := Nat.and_two_pow_sub_one_eq_mod _ 3
  rw [f]
  have g : ((2 ^ 64 : Nat) : Int) = 18446744073709551616 := rfl
  rw [g]
  have w : ∀ z : Int, 0 ≤ z → z < 8 → IntKind.i64.wrap z = z := by
    intro z h0 h1
    rw [IntKind.wrap_i64]
    omega
  rw [w _ (by omega) (by omega)]
  omega
theorem tmod8 (x : Int) : Int.tmod x 8 = if 0 ≤ x then x % 8 else -((-x) % 8) := by
  by_cases h : 0 ≤ x
  · rw [if_pos h, Int.tmod_eq_emod_of_nonneg h]
  · rw [if_neg h]
    have e : x = -(-x) := by omega
    rw [e, Int.neg_tmod, Int.tmod_eq_emod_of_nonneg (by omega)]
    simp
end Go.Proofs.Ytmigbinllnejoaa.Plain
