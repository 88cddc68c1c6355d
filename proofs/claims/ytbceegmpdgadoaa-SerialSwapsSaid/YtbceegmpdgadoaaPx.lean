/- Contracts of Go functions of this seat: each Lean function here is what the Go function of its name answers, in every memory; no condition but the equations that each theorem states. Written by a program of this session (wip/given.py); Lean checks it. -/
import Derived.Test.YtbceegmpdgadoaaPx0
import Derived.Test.YtbceegmpdgadoaaPx1
import Derived.Test.YtbceegmpdgadoaaPx2
import Derived.Test.YtbceegmpdgadoaaPx3
import Derived.Test.YtbceegmpdgadoaaPx4
import Derived.Test.YtbceegmpdgadoaaPx5
import Derived.Test.YtbceegmpdgadoaaPx6
import Derived.Test.YtbceegmpdgadoaaPx7
import Derived.Test.YtbceegmpdgadoaaPx8
import Derived.Test.YtbceegmpdgadoaaPx9
namespace Go.Proofs.Ytbceegmpdgadoaa.P
open Go.RowKit Go.Proofs.YtbceegmpdgadoaaW.PrintWords Go.Proofs.YtbceegmpdgadoaaW.PrintLast Go.Proofs.YtbceegmpdgadoaaW.PrintMore
attribute [local go_sem] max2_int min2_int max_two min_two max_three min_three max_four min_four   -- for this text's walks alone
set_option linter.unusedVariables false
set_option linter.unusedSimpArgs false

end Go.Proofs.Ytbceegmpdgadoaa.P
