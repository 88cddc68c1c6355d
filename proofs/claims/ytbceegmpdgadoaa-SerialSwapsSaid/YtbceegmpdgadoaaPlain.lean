/- Plain facts about the printed functions of layer 12 (serial): both steps are one function of numbers. No program in sight but the Lean functions. -/
import Derived.Test.YtbceegmpdgadoaaPx
namespace Go.Proofs.Ytbceegmpdgadoaa.Plain
open Go.RowKit Go.Proofs.Ytbceegmpdgadoaa.P
set_option maxRecDepth 100000

theorem u8_nat {a : Int} (h : (Lit.int .u8 a).wf = true) : ∃ n : Nat, n < 256 ∧ a = (n : Int) := by
  have hmin : IntKind.u8.min = 0 := rfl
  have hmax : IntKind.u8.max = 255 := rfl
  simp only [Lit.wf, Bool.and_eq_true, decide_eq_true_eq] at h
  exact ⟨a.toNat, by omega, by omega⟩
theorem w64 {x : Int} (h0 : -9223372036854775808 ≤ x) (h1 : x ≤ 9223372036854775807) : wrap64 x = x := by unfold wrap64; omega

theorem and128 : ∀ c : Nat, c < 256 → (Go.bits .and .u8 (c : Int) 128 == 0) = decide (c < 128) := by decide +kernel
theorem out128 : ∀ d : Nat, d < 256 → (Go.bits .and .u8 (d : Int) 128 != 0) = decide (128 ≤ d) := by decide +kernel
theorem and1 : ∀ c : Nat, c < 256 → (Go.bits .and .u8 (c : Int) 1 != 0) = decide (c % 2 = 1) := by decide +kernel
theorem or1 : ∀ d : Nat, d < 256 → Go.bits .or .u8 (((d : Int) * 2) % 256) 1 = ((d : Int) * 2) % 256 + 1 := by decide +kernel
theorem clr : ∀ c : Nat, c < 256 → 128 ≤ c → Go.bits .andNot .u8 (c : Int) 128 = (c : Int) - 128 := by decide +kernel
theorem and129 : ∀ v : Nat, v < 256 → Go.bits .and .u8 (v : Int) 129 = (((((Int.tdiv (v : Int) 128) % 256) * 128) % 256) + (Int.tmod (v : Int) 2)) % 256 := by decide +kernel
theorem or126 : ∀ c : Nat, c < 256 → Go.bits .or .u8 (c : Int) 126 = (((Int.tdiv (c : Int) 128) % 256 * 128 % 256 + 126 + (Int.tmod (c : Int) 2)) % 256) := by decide +kernel

/-- A bit is taken in. -/
def sh (d c l p : Nat) (b : Bool) : Int × Int × Int × Int × Bool × Bool :=
  (((d : Int) * 2) % 256 + (if b then 1 else 0), if l = 1 then (c : Int) - 128 else c, (l : Int) - 1, (p : Int), decide (128 ≤ d), decide (l = 1))
/-- A cycle. -/
def stp (d c l p : Nat) (b e : Bool) : Int × Int × Int × Int × Bool × Bool :=
  if c < 128 ∨ l = 0 then ((d : Int), (c : Int), (l : Int), (p : Int), decide (128 ≤ d), false) else
  if c % 2 = 1 then (if 127 ≤ p then sh d c l 0 b else ((d : Int), (c : Int), (l : Int), (p : Int) + 1, decide (128 ≤ d), false))
  else (if e = true then sh d c l p b else ((d : Int), (c : Int), (l : Int), (p : Int), decide (128 ≤ d), false))

theorem shift_eq (d c l p : Nat) (b : Bool) (hd : d < 256) (hc : c < 256) (hc2 : 128 ≤ c) (hl : l < 256) (hl0 : l ≠ 0) :
    serial_shift.f d c l p b = some (((d : Int) * 2) % 256 + (if b then 1 else 0), if l = 1 then (c : Int) - 128 else c, (l : Int) - 1, (p : Int)) := by
  have e : ((l : Int) - 1) % 256 = (l : Int) - 1 := by omega
  unfold serial_shift.f
  rw [e, or1 d hd, clr c hc hc2]
  by_cases h : l = 1
  · subst h
    cases b <;> simp
  · have h2 : ¬ ((l : Int) - 1 = 0) := by omega
    cases b <;> simp [h, h2]

theorem tail_eq (d c l p : Nat) (b : Bool) (hd : d < 256) (hc : c < 256) (hc2 : 128 ≤ c) (hl : l < 256) (hl0 : l ≠ 0) : serial_Step.tail d c l p b = some (sh d c l p b) := by
  unfold serial_Step.tail
  rw [shift_eq d c l p b hd hc hc2 hl hl0]
  simp only [Option.bind_some]
  have e : ((l : Int) - 1 == (l : Int)) = false := beq_eq_false_iff_ne.mpr (by omega)
  have e2 : ((l : Int) - 1 == 0) = decide (l = 1) := by
    rw [Bool.eq_iff_iff]
    simp
    omega
  rw [e, e2, out128 d hd]
  unfold sh
  simp

theorem step_eq (d c l p : Nat) (b e : Bool) (hd : d < 256) (hc : c < 256) (hl : l < 256) (hp : p < 256) : serial_Step.f d c l p b e = some (stp d c l p b e) := by
  unfold serial_Step.f stp
  rw [and128 c hc, and1 c hc, out128 d hd]
  have e0 : ((l : Int) == 0) = decide (l = 0) := by
    rw [Bool.eq_iff_iff]
    simp
  rw [e0, w64 (x := (p : Int)) (by omega) (by omega), w64 (x := (p : Int) + 1) (by omega) (by omega)]
  by_cases h1 : c < 128
  · simp [h1]
  · by_cases h2 : l = 0
    · simp [h2]
    · by_cases h3 : c % 2 = 1
      · by_cases h4 : 127 ≤ p
        · have h5 : (128 : Int) ≤ (p : Int) + 1 := by omega
          simp only [h1, h2, h3, h4, h5, decide_false, decide_true, if_true, if_false, or_self, Bool.false_eq_true]
          exact tail_eq d c l 0 b hd hc (by omega) hl h2
        · have h5 : ¬ (128 : Int) ≤ (p : Int) + 1 := by omega
          have h6 : ((p : Int) + 1) % 256 = (p : Int) + 1 := by omega
          simp only [h1, h2, h3, h4, h5, h6, decide_false, decide_true, if_true, if_false, or_self, Bool.false_eq_true]
      · cases e with
        | true =>
          simp only [h1, h2, h3, decide_false, if_true, if_false, or_self, Bool.false_eq_true]
          exact tail_eq d c l p b hd hc (by omega) hl h2
        | false => simp [h1, h2, h3]

theorem ref_eq (k d c l p : Nat) (b e : Bool) (hd : d < 256) (hc : c < 256) (hl : l < 256) (hp : p < 256) : whirligigref12_Step.f (k + 2) d c l p b e = some (stp d c l p b e) := by
  unfold whirligigref12_Step.f stp
  simp only [whirligigref12_Step.j0, whirligigref12_Step.j1]
  have e0 : ((l : Int) == 0) = decide (l = 0) := by
    rw [Bool.eq_iff_iff]
    simp
  have e1 : Int.tmod (c : Int) 2 = (c : Int) % 2 := Int.tmod_eq_emod_of_nonneg (by omega)
  have e2 : Int.tmod ((d : Int) * 2) 256 = ((d : Int) * 2) % 256 := Int.tmod_eq_emod_of_nonneg (by omega)
  have e3 : decide ((d : Int) ≥ 128) = decide (128 ≤ d) := by
    rw [Bool.eq_iff_iff]
    simp
    omega
  rw [e0, e3, w64 (x := (p : Int)) (by omega) (by omega), w64 (x := (p : Int) + 1) (by omega) (by omega), w64 (x := (d : Int)) (by omega) (by omega), w64 (x := (d : Int) * 2) (by omega) (by omega), e1, e2, w64 (x := ((d : Int) * 2) % 256 + 1) (by omega) (by omega)]
  by_cases h1 : c < 128
  · have h1' : (c : Int) < 128 := by omega
    simp [h1, h1']
  · have h1' : ¬ (c : Int) < 128 := by omega
    by_cases h2 : l = 0
    · simp [h2, h1']
    · have hl1 : ((l : Int) - 1) % 256 = (l : Int) - 1 := by omega
      have hcc : ((c : Int) - 128) % 256 = (c : Int) - 128 := by omega
      have hdd : ((d : Int) * 2) % 256 % 256 = ((d : Int) * 2) % 256 := by omega
      have hdd1 : (((d : Int) * 2) % 256 + 1) % 256 = ((d : Int) * 2) % 256 + 1 := by omega
      rw [hl1, hcc, hdd, hdd1]
      have key : ∀ q : Nat, (if b = true then (if (l : Int) - 1 > 0 then some (((d : Int) * 2) % 256 + 1, (c : Int), (l : Int) - 1, (q : Int), decide (128 ≤ d), false) else some (((d : Int) * 2) % 256 + 1, (c : Int) - 128, (l : Int) - 1, (q : Int), decide (128 ≤ d), true))
          else (if (l : Int) - 1 > 0 then some (((d : Int) * 2) % 256, (c : Int), (l : Int) - 1, (q : Int), decide (128 ≤ d), false) else some (((d : Int) * 2) % 256, (c : Int) - 128, (l : Int) - 1, (q : Int), decide (128 ≤ d), true))) = some (sh d c l q b) := by
        intro q
        unfold sh
        by_cases h : l = 1
        · subst h
          cases b <;> simp
        · have h' : (l : Int) - 1 > 0 := by omega
          cases b with
          | true =>
            rw [if_pos rfl, if_pos h']
            simp [h]
          | false =>
            rw [if_neg (by simp), if_pos h']
            simp [h]
      by_cases h3 : c % 2 = 1
      · have h3' : (c : Int) % 2 = 1 := by omega
        by_cases h4 : 127 ≤ p
        · have h5 : (p : Int) + 1 ≥ 128 := by omega
          simp only [h1, h1', h2, h3, h3', h4, h5, decide_false, decide_true, if_true, if_false, or_self, Bool.false_eq_true]
          exact key 0
        · have h5 : ¬ (p : Int) + 1 ≥ 128 := by omega
          have h6 : ((p : Int) + 1) % 256 = (p : Int) + 1 := by omega
          simp only [h1, h1', h2, h3, h3', h4, h5, h6, decide_false, if_true, if_false, or_self, Bool.false_eq_true]
      · have h3' : ¬ (c : Int) % 2 = 1 := by omega
        cases e with
        | true =>
          simp only [h1, h1', h2, h3, h3', decide_false, if_true, if_false, or_self, Bool.false_eq_true]
          exact key p
        | false => simp [h1, h1', h2, h3, h3']

theorem shown : whirligiglaw12_shown.f = some true := by decide +kernel
end Go.Proofs.Ytbceegmpdgadoaa.Plain
