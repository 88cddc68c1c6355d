/- A byte goes through the port: what the port holds after i cycles, where it has its own clock and where the other's. Plain facts; no condition but the bounds that stand in each. -/
import Derived.Test.YtbceegmpdgadoaaPlain
namespace Go.Proofs.Ytbceegmpdgadoaa.Plain
open Go.RowKit Go.Proofs.Ytbceegmpdgadoaa.P Go.Proofs.YtbceegmpdgadoaaW.PrintWords
set_option maxRecDepth 100000

/-- What the port holds when j bits of o are out and j bits of n are in. -/
def dj (o n j : Nat) : Nat := (o * 2 ^ j) % 256 + n / 2 ^ (8 - j)
/-- Bit s. -/
def bt (v s : Nat) : Bool := decide (v / 2 ^ s % 2 = 1)

theorem eight (j : Nat) (h : j < 8) : j = 0 ∨ j = 1 ∨ j = 2 ∨ j = 3 ∨ j = 4 ∨ j = 5 ∨ j = 6 ∨ j = 7 := by omega
theorem dj_lt (o n j : Nat) (hn : n < 256) (h : j < 8) : dj o n j < 256 := by
  unfold dj
  rcases eight j h with rfl | rfl | rfl | rfl | rfl | rfl | rfl | rfl <;> simp <;> omega
theorem dj_bit (o n j : Nat) (ho : o < 256) (hn : n < 256) (h : j < 8) : decide (128 ≤ dj o n j) = bt o (7 - j) := by
  unfold dj bt
  rw [Bool.eq_iff_iff]
  rcases eight j h with rfl | rfl | rfl | rfl | rfl | rfl | rfl | rfl <;> simp <;> omega
theorem dj_next (o n j : Nat) (ho : o < 256) (hn : n < 256) (h : j < 8) : (dj o n j * 2) % 256 + (if bt n (7 - j) = true then 1 else 0) = dj o n (j + 1) := by
  unfold dj bt
  rcases eight j h with rfl | rfl | rfl | rfl | rfl | rfl | rfl | rfl <;> simp only [decide_eq_true_eq] <;> split <;> simp at * <;> omega
theorem dj_zero (o n : Nat) (ho : o < 256) (hn : n < 256) : dj o n 0 = o := by
  unfold dj
  simp
  omega
theorem dj_eight (o n : Nat) : dj o n 8 = n := by
  unfold dj
  simp

theorem shr_bit : ∀ v : Nat, v < 256 → ∀ s : Nat, s < 8 → (Go.bits .and .u8 (shr .u8 (v : Int) (s : Int)) 1 == 1) = bt v s := by decide +kernel

/-- One cycle of the port with its own clock. -/
theorem own (o n i : Nat) (ho : o < 256) (hn : n < 256) (hi : i < 1024) (e : Bool) :
    serial_Step.f (dj o n (i / 128) : Nat) 129 ((8 - i / 128 : Nat) : Int) ((i % 128 : Nat) : Int) (bt n (7 - i / 128)) e =
      some (((dj o n ((i + 1) / 128) : Nat) : Int), (if i = 1023 then 1 else 129), ((8 - (i + 1) / 128 : Nat) : Int), (((i + 1) % 128 : Nat) : Int), bt o (7 - i / 128), decide (i = 1023)) := by
  have hj : i / 128 < 8 := by omega
  have h := step_eq (dj o n (i / 128)) 129 (8 - i / 128) (i % 128) (bt n (7 - i / 128)) e (dj_lt o n _ hn hj) (by omega) (by omega) (by omega)
  have h129 : ((129 : Nat) : Int) = 129 := rfl
  rw [h129] at h
  rw [h]
  unfold stp
  rw [if_neg (by omega), if_pos (by omega), dj_bit o n _ ho hn hj]
  by_cases h4 : 127 ≤ i % 128
  · rw [if_pos h4]
    unfold sh
    rw [dj_bit o n _ ho hn hj]
    have n1 : (i + 1) / 128 = i / 128 + 1 := by omega
    have n2 : (i + 1) % 128 = 0 := by omega
    have n3 := dj_next o n (i / 128) ho hn hj
    rw [n1, n2, ← n3]
    by_cases h5 : i = 1023
    · subst h5
      cases bt n (7 - 1023 / 128) <;> simp
    · have h6 : ¬ (8 - i / 128 = 1) := by omega
      have h7 : ((8 - i / 128 : Nat) : Int) - 1 = ((8 - (i / 128 + 1) : Nat) : Int) := by omega
      rw [if_neg h5, if_neg h6, h7]
      cases bt n (7 - i / 128) <;> simp [h5, h6]
  · rw [if_neg h4]
    have n1 : (i + 1) / 128 = i / 128 := by omega
    have n2 : (i + 1) % 128 = i % 128 + 1 := by omega
    have h5 : i ≠ 1023 := by omega
    rw [n1, n2, if_neg h5]
    simp [h5]

/-- One cycle of the port with the other's clock: its edge is where the other one has shifted. -/
theorem other (o n i : Nat) (ho : o < 256) (hn : n < 256) (hi : i < 1024) :
    serial_Step.f (dj o n (i / 128) : Nat) 128 ((8 - i / 128 : Nat) : Int) 0 (bt n (7 - i / 128)) (decide (i % 128 = 127)) =
      some (((dj o n ((i + 1) / 128) : Nat) : Int), (if i = 1023 then 0 else 128), ((8 - (i + 1) / 128 : Nat) : Int), 0, bt o (7 - i / 128), decide (i = 1023)) := by
  have hj : i / 128 < 8 := by omega
  have h := step_eq (dj o n (i / 128)) 128 (8 - i / 128) 0 (bt n (7 - i / 128)) (decide (i % 128 = 127)) (dj_lt o n _ hn hj) (by omega) (by omega) (by omega)
  have h128 : ((128 : Nat) : Int) = 128 := rfl
  have h00 : ((0 : Nat) : Int) = 0 := rfl
  rw [h128, h00] at h
  rw [h]
  unfold stp
  rw [if_neg (by omega), if_neg (by omega), dj_bit o n _ ho hn hj]
  by_cases h4 : i % 128 = 127
  · rw [if_pos (by simp [h4])]
    unfold sh
    rw [dj_bit o n _ ho hn hj]
    have n1 : (i + 1) / 128 = i / 128 + 1 := by omega
    have n3 := dj_next o n (i / 128) ho hn hj
    rw [n1, ← n3]
    by_cases h5 : i = 1023
    · subst h5
      cases bt n (7 - 1023 / 128) <;> simp
    · have h6 : ¬ (8 - i / 128 = 1) := by omega
      have h7 : ((8 - i / 128 : Nat) : Int) - 1 = ((8 - (i / 128 + 1) : Nat) : Int) := by omega
      rw [if_neg h5, if_neg h6, h7]
      cases bt n (7 - i / 128) <;> simp [h5, h6]
  · rw [if_neg (by simp [h4])]
    have n1 : (i + 1) / 128 = i / 128 := by omega
    have h5 : i ≠ 1023 := by omega
    rw [n1, if_neg h5]
    simp [h5]
end Go.Proofs.Ytbceegmpdgadoaa.Plain
