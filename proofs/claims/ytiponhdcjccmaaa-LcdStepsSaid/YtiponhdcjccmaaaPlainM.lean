/- Plain facts about the printed functions of layer 15 (lcd): the reference's mode. No program in sight but the Lean functions; no condition but the bounds that stand in each. -/
import Derived.Test.YtiponhdcjccmaaaPlain
import Derived.Test.YtiponhdcjccmaaaPx9
namespace Go.Proofs.Ytiponhdcjccmaaa.Plain
open Go.RowKit Go.Proofs.Ytiponhdcjccmaaa.P Go.Proofs.YtiponhdcjccmaaaW.PrintWords
set_option maxRecDepth 100000

theorem rmode_eq (on : Bool) (line dot lyc sel : Int) (high : Bool) (ex : Int) : whirligigref15_Mode.f on line dot lyc sel high ex = some (md on line dot ex) := by
  unfold whirligigref15_Mode.f md
  repeat' split
  all_goals rfl

end Go.Proofs.Ytiponhdcjccmaaa.Plain
