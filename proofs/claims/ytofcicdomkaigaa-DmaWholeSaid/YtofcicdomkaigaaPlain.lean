/- Plain facts about the printed functions of layer 19 (dma): both steps and both sources are one. No program in sight but the Lean functions; no condition but the bounds that stand in each. -/
import Derived.Test.YtofcicdomkaigaaPx
namespace Go.Proofs.Ytofcicdomkaigaa.Plain
open Go.RowKit Go.Proofs.Ytofcicdomkaigaa.P Go.Proofs.YtofcicdomkaigaaW.PrintWords
set_option maxRecDepth 100000

theorem u8_nat {a : Int} (h : (Lit.int .u8 a).wf = true) : ∃ n : Nat, n < 256 ∧ a = (n : Int) := by
  have hmin : IntKind.u8.min = 0 := rfl
  have hmax : IntKind.u8.max = 255 := rfl
  simp only [Lit.wf, Bool.and_eq_true, decide_eq_true_eq] at h
  exact ⟨a.toNat, by omega, by omega⟩
theorem w64 {x : Int} (h0 : -9223372036854775808 ≤ x) (h1 : x ≤ 9223372036854775807) : wrap64 x = x := by unfold wrap64; omega
/-- A small number is not wrapped. -/
theorem w64n {x : Int} {n : Nat} (h : x = (n : Int)) (hn : n < 1000000) : wrap64 x = (n : Int) := by
  subst h
  exact w64 (by omega) (by omega)
theorem up {α : Type} {f : Nat → Option α} (m : ∀ k, LeO (f k) (f (k + 1))) {k0 : Nat} {r : α} (h : f k0 = some r) (d : Nat) : f (k0 + d) = some r := by
  induction d with
  | zero => exact h
  | succ d ih => exact m (k0 + d) r ih
theorem up_le {α : Type} {f : Nat → Option α} (m : ∀ k, LeO (f k) (f (k + 1))) {k0 k : Nat} {r : α} (h : f k0 = some r) (hk : k0 ≤ k) : f k = some r := by
  obtain ⟨d, rfl⟩ : ∃ d, k = k0 + d := ⟨k - k0, by omega⟩
  exact up m h d

/-- Where a byte comes from. -/
def S (p a : Nat) : Int := if 224 ≤ p then 256 * (p : Int) + a - 8192 else 256 * (p : Int) + a

theorem src0_eq : ∀ p : Nat, p < 256 → ∀ a : Nat, a < 256 → src0 (p : Int) (a : Int) = 256 * (p : Int) + (a : Int) := by decide +kernel
theorem wrap16 (x : Int) : IntKind.u16.wrap x = x % 65536 := by simp [IntKind.wrap, IntKind.bits, IntKind.signed]
theorem src1_eq (p a : Nat) (hp : p < 256) (ha : a < 256) : src1 p a = S p a := by
  unfold src1 S
  rw [src0_eq p hp a ha]
  by_cases h : 224 ≤ p
  · have h' : (57344 : Int) ≤ 256 * (p : Int) + (a : Int) := by omega
    rw [if_pos h', if_pos h, wrap16]
    omega
  · have h' : ¬ (57344 : Int) ≤ 256 * (p : Int) + (a : Int) := by omega
    rw [if_neg h', if_neg h]
theorem rs1_eq (p a : Nat) (hp : p < 256) (ha : a < 256) : rs1 p a = S p a := by
  unfold rs1 S
  rw [w64 (x := (p : Int)) (by omega) (by omega), w64 (x := (a : Int)) (by omega) (by omega), w64 (x := 256 * (p : Int)) (by omega) (by omega), w64 (x := 256 * (p : Int) + (a : Int)) (by omega) (by omega), w64 (x := 256 * (p : Int) + (a : Int) - 8192) (by omega) (by omega)]
  by_cases h : 224 ≤ p
  · have h' : (224 : Int) ≤ (p : Int) := by omega
    rw [if_pos h', if_pos h, wrap16]
    omega
  · have h' : ¬ (224 : Int) ≤ (p : Int) := by omega
    rw [if_neg h', if_neg h, wrap16]
    omega
theorem source_f (p a : Nat) (hp : p < 256) (ha : a < 256) : dma_Source.f p a = some (S p a) := by
  have e := src1_eq p a hp ha
  rw [← e]
  unfold dma_Source.f src1 src0
  split <;> simp_all
theorem rsource_f (p a : Nat) (hp : p < 256) (ha : a < 256) : whirligigref19_Source.f p a = some (S p a) := by
  have e := rs1_eq p a hp ha
  rw [← e]
  unfold whirligigref19_Source.f rs1
  split <;> simp_all

theorem shown5 : whirligiglaw19_shown.f 5 = some true := by decide +kernel
theorem shown (k : Nat) (h : 5 ≤ k) : whirligiglaw19_shown.f k = some true := up_le (fun k => whirligiglaw19_shown.mono k) shown5 h

/-- A cycle, by cases. -/
theorem go_on (p a n : Nat) (hp : p < 256) (h : a < 159) : dma_Step.f true p a 0 n = some (true, (p : Int), ((a + 1 : Nat) : Int), 0, (n : Int), S p a, (a : Int), true) := by
  unfold dma_Step.f
  rw [if_pos rfl, if_pos (by omega), src1_eq p a hp (by omega)]
  have e : ((a : Int) + 1) % 256 = ((a + 1 : Nat) : Int) := by omega
  simp [e]
theorem go_end (p n : Nat) (hp : p < 256) : dma_Step.f true p 159 0 n = some (false, (p : Int), 0, 0, (n : Int), S p 159, 159, true) := by
  have e := src1_eq p 159 hp (by omega)
  have e' : src1 (p : Int) 159 = S p 159 := e
  unfold dma_Step.f
  rw [if_pos rfl, if_neg (by omega), e']
  simp
theorem go_two (p a n : Nat) (hp : p < 256) (h : a < 159) : dma_Step.f true p a 2 n = some (true, (p : Int), ((a + 1 : Nat) : Int), 1, (n : Int), S p a, (a : Int), true) := by
  unfold dma_Step.f
  rw [if_pos rfl, if_pos (by omega), src1_eq p a hp (by omega)]
  have e : ((a : Int) + 1) % 256 = ((a + 1 : Nat) : Int) := by omega
  simp [e]
theorem go_one (p a n : Nat) (hp : p < 256) (h : a < 159) : dma_Step.f true p a 1 n = some (true, (n : Int), 0, 0, (n : Int), S p a, (a : Int), true) := by
  unfold dma_Step.f
  rw [if_pos rfl, if_pos (by omega), src1_eq p a hp (by omega)]
  simp
theorem off_two (p a n : Int) : dma_Step.f false p a 2 n = some (false, p, a, 1, n, 0, 0, false) := by
  unfold dma_Step.f
  rw [if_neg (by simp)]
  simp
theorem off_one (p a n : Int) : dma_Step.f false p a 1 n = some (true, n, 0, 0, n, 0, 0, false) := by
  unfold dma_Step.f
  rw [if_neg (by simp)]
  simp

theorem steps_eq (on : Bool) (p a t n : Nat) (hp : p < 256) (ha : a < 256) (ht : t < 256) : ∃ r, dma_Step.f on p a t n = some r ∧ whirligigref19_Step.f on p a t n = some r := by
  have b1 := src1_eq p a hp ha
  have b2 := rs1_eq p a hp ha
  have b3 : src1 (p : Int) 159 = S p 159 := src1_eq p 159 hp (by omega)
  have b4 : rs1 (p : Int) 159 = S p 159 := rs1_eq p 159 hp (by omega)
  have e0 : ((t : Int) != 0) = decide (0 < (t : Int)) := by
    rw [Bool.eq_iff_iff]
    simp
    omega
  unfold dma_Step.f whirligigref19_Step.f
  rw [b1, b2, b3, b4, e0]
  cases on with
  | false =>
    by_cases h : 0 < (t : Int)
    · simp only [h, decide_true, if_true, Bool.false_eq_true, if_false]
      by_cases hc : (((t : Int) - 1) % 256 == 0) = true
      · simp only [hc, if_true]
        exact ⟨_, rfl, rfl⟩
      · simp only [hc, Bool.false_eq_true, if_false]
        exact ⟨_, rfl, rfl⟩
    · simp only [h, decide_false, Bool.false_eq_true, if_false]
      exact ⟨_, rfl, rfl⟩
  | true =>
    by_cases c1 : (a : Int) < 159
    · have c2 : ¬ (159 : Int) < (a : Int) := by omega
      have c3 : ((a : Int) == 159) = false := beq_eq_false_iff_ne.mpr (by omega)
      by_cases h : 0 < (t : Int)
      · simp only [h, c1, c2, c3, decide_true, if_true, Bool.false_eq_true, if_false]
        by_cases hc : (((t : Int) - 1) % 256 == 0) = true
        · simp only [hc, if_true]
          exact ⟨_, rfl, rfl⟩
        · simp only [hc, Bool.false_eq_true, if_false]
          exact ⟨_, rfl, rfl⟩
      · simp only [h, c1, c2, c3, decide_false, if_true, Bool.false_eq_true, if_false]
        exact ⟨_, rfl, rfl⟩
    · by_cases c2 : (159 : Int) < (a : Int)
      · by_cases h : 0 < (t : Int)
        · simp only [h, c1, c2, decide_true, if_true, if_false]
          by_cases hc : (((t : Int) - 1) % 256 == 0) = true
          · simp only [hc, if_true]
            exact ⟨_, rfl, rfl⟩
          · simp only [hc, Bool.false_eq_true, if_false]
            exact ⟨_, rfl, rfl⟩
        · simp only [h, c1, c2, decide_false, if_true, Bool.false_eq_true, if_false]
          exact ⟨_, rfl, rfl⟩
      · obtain rfl : a = 159 := by omega
        have c3 : ((159 : Int) == 159) = true := rfl
        have c4 : ((159 : Nat) : Int) = 159 := rfl
        have c5 : ¬ (159 : Int) < 159 := by omega
        by_cases h : 0 < (t : Int)
        · simp only [c4, h, c5, c3, decide_true, if_true, if_false]
          by_cases hc : (((t : Int) - 1) % 256 == 0) = true
          · simp only [hc, if_true]
            exact ⟨_, rfl, rfl⟩
          · simp only [hc, Bool.false_eq_true, if_false]
            exact ⟨_, rfl, rfl⟩
        · simp only [c4, h, c5, c3, decide_false, if_true, Bool.false_eq_true, if_false]
          exact ⟨_, rfl, rfl⟩
end Go.Proofs.Ytofcicdomkaigaa.Plain
