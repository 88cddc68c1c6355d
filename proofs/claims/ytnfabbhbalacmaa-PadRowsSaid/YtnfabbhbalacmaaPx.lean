/- Contracts of Go functions of this seat: each Lean function here is what the Go function of its name answers, in every memory; no condition but the equations that each theorem states. Written by a program of this session (wip/given.py); Lean checks it. -/
import Derived.Test.YtnfabbhbalacmaaPx0
import Derived.Test.YtnfabbhbalacmaaPx1
import Derived.Test.YtnfabbhbalacmaaPx2
import Derived.Test.YtnfabbhbalacmaaPx3
import Derived.Test.YtnfabbhbalacmaaPx4
import Derived.Test.YtnfabbhbalacmaaPx5
import Derived.Test.YtnfabbhbalacmaaPx6
import Derived.Test.YtnfabbhbalacmaaPx7
import Derived.Test.YtnfabbhbalacmaaPx8
namespace Go.Proofs.Ytnfabbhbalacmaa.P
open Go.RowKit Go.Proofs.YtnfabbhbalacmaaW.PrintWords Go.Proofs.YtnfabbhbalacmaaW.PrintLast Go.Proofs.YtnfabbhbalacmaaW.PrintMore
attribute [local go_sem] max2_int min2_int max_two min_two max_three min_three max_four min_four   -- for this text's walks alone
set_option linter.unusedVariables false
set_option linter.unusedSimpArgs false

end Go.Proofs.Ytnfabbhbalacmaa.P
