/- Plain facts about the printed functions of layer 15 (lcd): the reference's line of all sources. No program in sight but the Lean functions; no condition but the bounds that stand in each. -/
import Derived.Test.YtiponhdcjccmaaaPlainM
import Derived.Test.YtiponhdcjccmaaaPx13
namespace Go.Proofs.Ytiponhdcjccmaaa.Plain
open Go.RowKit Go.Proofs.Ytiponhdcjccmaaa.P Go.Proofs.YtiponhdcjccmaaaW.PrintWords
set_option maxRecDepth 100000

theorem bit9 : ∀ v : Nat, v < 256 → ∀ n : Nat, n < 8 → whirligigref01_Bit.f 9 (v : Int) (n : Int) = some (v.testBit n) := by decide +kernel

theorem bit (k v n : Nat) (hk : 9 ≤ k) (hv : v < 256) (hn : n < 8) : whirligigref01_Bit.f k (v : Int) (n : Int) = some (v.testBit n) :=
  up_le (fun k => whirligigref01_Bit.mono (v : Int) (n : Int) k) (bit9 v hv n hn) hk

theorem rsource_eq (k : Nat) (hk : 9 ≤ k) (on : Bool) (line dot lyc : Int) (sel : Nat) (hs : sel < 256) (high : Bool) (ex : Int) : whirligigref15_Source.f k on line dot lyc sel high ex = some (src on line dot lyc sel ex) := by
  have b3 : whirligigref01_Bit.f k (sel : Int) 3 = some (sel.testBit 3) := bit k sel 3 hk hs (by omega)
  have b4 : whirligigref01_Bit.f k (sel : Int) 4 = some (sel.testBit 4) := bit k sel 4 hk hs (by omega)
  have b5 : whirligigref01_Bit.f k (sel : Int) 5 = some (sel.testBit 5) := bit k sel 5 hk hs (by omega)
  have b6 : whirligigref01_Bit.f k (sel : Int) 6 = some (sel.testBit 6) := bit k sel 6 hk hs (by omega)
  unfold whirligigref15_Source.f src
  rw [rmode_eq]
  simp only [Option.bind_some]
  cases on with
  | false => simp
  | true =>
    rw [b3, b4, b5, b6]
    cases sel.testBit 3 <;> cases sel.testBit 4 <;> cases sel.testBit 5 <;> cases sel.testBit 6 <;> rcases md_cases true line dot ex with h | h | h | h <;> rw [h] <;> by_cases e : line = lyc <;> simp [e]

theorem rises_eq (k : Nat) (hk : 9 ≤ k) (on : Bool) (line dot lyc : Int) (sel : Nat) (hs : sel < 256) (high : Bool) (ex : Int) : whirligigref15_rises.f k on line dot lyc sel high ex = some (hrd on line dot lyc sel high ex) := by
  unfold whirligigref15_rises.f hrd
  rw [rsource_eq k hk on line dot lyc sel hs high ex]
  cases src on line dot lyc sel ex <;> simp

end Go.Proofs.Ytiponhdcjccmaaa.Plain
