/- PadRows, the plain part: whatever keys, while no row is asked all lines are 1; with both asked a line is 0 where it is in either row. No condition. -/
import Derived.Test.YtnfabbhbalacmaaPlain
namespace Go.Proofs.Ytnfabbhbalacmaa.Pure
open Go.RowKit Go.Proofs.Ytnfabbhbalacmaa.P Go.Proofs.Ytnfabbhbalacmaa.Plain
set_option maxRecDepth 100000

theorem rows_all : ∀ a : Nat, a < 256 → whirligiglaw13_PadRows.f (a : Int) = some true := by decide +kernel

theorem PadRows : whirligiglaw13_PadRows.Pure := by
  intro a ea
  obtain ⟨a, ha, rfl⟩ := u8_nat ea
  exact rows_all a ha

end Go.Proofs.Ytnfabbhbalacmaa.Pure
