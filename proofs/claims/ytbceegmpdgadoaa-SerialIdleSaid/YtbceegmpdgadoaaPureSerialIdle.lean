/- SerialIdle, the plain part: a port that does not go stays as it is and asks for nothing. No condition. -/
import Derived.Test.YtbceegmpdgadoaaSaidSerialIdle
import Derived.Test.YtbceegmpdgadoaaPlain
namespace Go.Proofs.Ytbceegmpdgadoaa.Pure
open Go.RowKit Go.Proofs.Ytbceegmpdgadoaa.P Go.Proofs.Ytbceegmpdgadoaa.Plain Go.Proofs.YtbceegmpdgadoaaW.PrintMore

theorem idle (d c l p : Nat) (b e : Bool) (hd : d < 256) (hc : c < 256) (hl : l < 256) (hp : p < 256) (h : c < 128 ∨ l = 0) : serial_Step.f d c l p b e = some ((d : Int), (c : Int), (l : Int), (p : Int), decide ((d : Int) > 127), false) := by
  rw [step_eq d c l p b e hd hc hl hp]
  unfold stp
  rw [if_pos h]
  have e3 : decide (128 ≤ d) = decide ((d : Int) > 127) := by
    rw [Bool.eq_iff_iff]
    simp
    omega
  rw [e3]

theorem SerialIdle : whirligiglaw12_SerialIdle.Pure := by
  intro d c l p b e ed ec el ep
  obtain ⟨d, hd, rfl⟩ := u8_nat ed
  obtain ⟨c, hc, rfl⟩ := u8_nat ec
  obtain ⟨l, hl, rfl⟩ := u8_nat el
  obtain ⟨p, hp, rfl⟩ := u8_nat ep
  unfold whirligiglaw12_SerialIdle.f
  rw [shown]
  simp only [Option.bind_some, if_true]
  have hm : Int.tmod (c : Int) 128 = ((c % 128 : Nat) : Int) := by rw [Int.tmod_eq_emod_of_nonneg (by omega)]; omega
  by_cases h1 : c < 128
  · have h1' : ¬ (c : Int) ≥ 128 := by omega
    rw [if_neg h1', idle d c l p b e hd hc hl hp (Or.inl h1)]
    simp
  · have h1' : (c : Int) ≥ 128 := by omega
    rw [if_pos h1']
    by_cases h2 : l = 0
    · have h2' : ¬ (l : Int) > 0 := by omega
      rw [if_neg h2', idle d c l p b e hd hc hl hp (Or.inr h2)]
      simp
    · have h2' : (l : Int) > 0 := by omega
      rw [if_pos h2', hm, idle d (c % 128) l p b e hd (by omega) hl hp (Or.inl (by omega))]
      simp

end Go.Proofs.Ytbceegmpdgadoaa.Pure
