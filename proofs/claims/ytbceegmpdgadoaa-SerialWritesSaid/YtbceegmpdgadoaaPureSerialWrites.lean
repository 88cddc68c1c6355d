/- SerialWrites, the plain part: whatever port, place and byte, what is written is the reference's. No condition. -/
import Derived.Test.YtbceegmpdgadoaaSaidSerialWrites
import Derived.Test.YtbceegmpdgadoaaPlain
namespace Go.Proofs.Ytbceegmpdgadoaa.Pure
open Go.RowKit Go.Proofs.Ytbceegmpdgadoaa.P Go.Proofs.Ytbceegmpdgadoaa.Plain Go.Proofs.YtbceegmpdgadoaaW.PrintMore

set_option maxRecDepth 100000
theorem write_hi : ∀ v : Nat, v < 256 → 128 ≤ v → Go.bits .and .u8 (v : Int) 129 = (((v : Int).tdiv 128 % 256 * 128 % 256 + (v : Int) % 2)) ∧ (((v : Int) / 128) * 8) % 256 = 8 := by decide +kernel
theorem write_lo : ∀ v : Nat, v < 256 → ¬ 128 ≤ v → Go.bits .and .u8 (v : Int) 129 = (((v : Int).tdiv 128 % 256 * 128 + (v : Int).tmod 2) % 256) ∧ (((v : Int) / 128) * 8) % 256 = 0 := by decide +kernel

theorem SerialWrites : whirligiglaw12_SerialWrites.Pure := by
  intro d c l p a v _ _ _ _ _ ev
  obtain ⟨v, hv, rfl⟩ := u8_nat ev
  unfold whirligiglaw12_SerialWrites.f whirligigref12_Write.f serial_Write.f
  rw [shown]
  simp only [Option.bind_some, if_true]
  by_cases h1 : a = 65281
  · simp [h1]
  · by_cases h2 : a = 65282
    · by_cases h3 : 128 ≤ v
      · obtain ⟨e1, e2⟩ := write_hi v hv h3
        have h3' : (128 : Int) ≤ (v : Int) := by omega
        rw [e1, e2]
        simp [h2, h3']
      · obtain ⟨e1, e2⟩ := write_lo v hv h3
        have h3' : ¬ (128 : Int) ≤ (v : Int) := by omega
        rw [e1, e2]
        simp [h2, h3']
    · simp [h1, h2]

end Go.Proofs.Ytbceegmpdgadoaa.Pure
