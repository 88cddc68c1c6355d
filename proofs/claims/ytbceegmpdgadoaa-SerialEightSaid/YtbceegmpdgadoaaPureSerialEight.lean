/- SerialEight, the plain part: a byte that is sent by the port's own clock takes 1024 cycles, asks once, in the last, sends its bits from the highest on, and is the byte that came in then. No condition. -/
import Derived.Test.YtbceegmpdgadoaaByte
namespace Go.Proofs.Ytbceegmpdgadoaa.Pure
open Go.RowKit Go.Proofs.Ytbceegmpdgadoaa.P Go.Proofs.Ytbceegmpdgadoaa.Plain Go.Proofs.YtbceegmpdgadoaaW.PrintWords

theorem tdiv_nat (i m : Nat) : Int.tdiv (i : Int) (m : Int) = ((i / m : Nat) : Int) := by
  rw [Int.tdiv_eq_ediv_of_nonneg (by omega)]
  rfl

theorem eight_round (o n z : Nat) (ho : o < 256) (hn : n < 256) (d : Nat) : ∀ (k i : Nat), i ≤ 1024 → 1024 - i = d → d < k →
    whirligiglaw12_SerialEight.l0 k o n z true (i : Int) ((dj o n (i / 128) : Nat) : Int) (if i = 1024 then 1 else 129) ((8 - i / 128 : Nat) : Int) ((i % 128 : Nat) : Int) = some true := by
  induction d with
  | zero =>
    intro k i h1 h2 h3
    obtain ⟨k, rfl⟩ : ∃ m, k = m + 1 := ⟨k - 1, by omega⟩
    obtain rfl : i = 1024 := by omega
    simp only [whirligiglaw12_SerialEight.l0, serial_Read.f]
    have e := dj_eight o n
    rw [if_neg (by omega), show 1024 / 128 = 8 from rfl, e]
    have e2 : Go.bits .or .u8 1 126 = 127 := by decide +kernel
    simp [e2]
  | succ d ih =>
    intro k i h1 h2 h3
    obtain ⟨k, rfl⟩ : ∃ m, k = m + 1 := ⟨k - 1, by omega⟩
    have hi : i < 1024 := by omega
    have hi1 : (i : Int) < 1024 := by omega
    have hi2 : (0 : Int) ≤ ((7 - i / 128 : Nat) : Int) := Int.natCast_nonneg _
    have hi3 : ¬ i = 1024 := by omega
    have hi4 : 7 - i / 128 < 8 := by omega
    have r := ih k (i + 1) (by omega) (by omega) (by omega)
    have e5 : ((i : Int) == 1023) = decide (i = 1023) := by
      rw [Bool.eq_iff_iff]
      simp
      omega
    have e6 : (if i + 1 = 1024 then (1 : Int) else 129) = (if i = 1023 then 1 else 129) := by
      by_cases h : i = 1023
      · rw [if_pos h, if_pos (by omega)]
      · rw [if_neg h, if_neg (by omega)]
    simp only [whirligiglaw12_SerialEight.l0]
    have t1 : Int.tdiv (i : Int) 128 = ((i / 128 : Nat) : Int) := tdiv_nat i 128
    have t2 : (0 : Int) ≤ Int.tmod (i : Int) 8 := by rw [Int.tmod_eq_emod_of_nonneg (by omega)]; omega
    have t3 : wrap64 (7 - wrap64 (Int.tdiv (i : Int) 128)) = ((7 - i / 128 : Nat) : Int) := by
      rw [t1, w64 (x := ((i / 128 : Nat) : Int)) (by omega) (by omega), w64 (by omega) (by omega)]
      omega
    have t4 : wrap64 ((i : Int) + 1) = ((i + 1 : Nat) : Int) := by
      rw [w64 (by omega) (by omega)]
      omega
    rw [if_pos hi1, t3, if_pos hi2, if_pos t2, t4]
    rw [shr_bit n hn (7 - i / 128) hi4, shr_bit o ho (7 - i / 128) hi4]
    rw [if_neg hi3, own o n i ho hn hi]
    simp only [Option.bind_some]
    rw [e5]
    simp only [bne_self_eq_false, Bool.false_eq_true, if_false]
    rw [e6] at r
    exact r

theorem eight_all (o n z : Nat) (ho : o < 256) (hn : n < 256) (k : Nat) (hk : 1024 < k) : whirligiglaw12_SerialEight.f k o n z = some true := by
  unfold whirligiglaw12_SerialEight.f
  rw [shown]
  have e1 : serial_Write.f 0 0 0 0 65281 (o : Int) = some ((o : Int), 0, 0, 0) := by unfold serial_Write.f; simp
  have e2 : serial_Write.f (o : Int) 0 0 0 65282 129 = some ((o : Int), 129, 8, 0) := by
    unfold serial_Write.f
    have e : Go.bits .and .u8 129 129 = 129 := by decide +kernel
    simp [e]
  rw [e1]
  simp only [Option.bind_some]
  rw [e2]
  simp only [Option.bind_some]
  have r := eight_round o n z ho hn 1024 k 0 (by omega) (by omega) hk
  rw [show 0 / 128 = 0 from rfl, dj_zero o n ho hn, if_neg (by omega)] at r
  exact r

theorem SerialEight : whirligiglaw12_SerialEight.Pure := by
  intro o n z eo en ez
  obtain ⟨o, ho, rfl⟩ := u8_nat eo
  obtain ⟨n, hn, rfl⟩ := u8_nat en
  obtain ⟨z, hz, rfl⟩ := u8_nat ez
  exact ⟨1025, eight_all o n z ho hn 1025 (by omega)⟩

end Go.Proofs.Ytbceegmpdgadoaa.Pure
