/- Contracts of Go functions of this seat: each Lean function here is what the Go function of its name answers, in every memory; no condition but the equations that each theorem states. Written by a program of this session (wip/given.py); Lean checks it. -/
import Derived.Test.YtofcicdomkaigaaPx0
import Derived.Test.YtofcicdomkaigaaPx1
import Derived.Test.YtofcicdomkaigaaPx2
import Derived.Test.YtofcicdomkaigaaPx3
import Derived.Test.YtofcicdomkaigaaPx4
import Derived.Test.YtofcicdomkaigaaPx5
import Derived.Test.YtofcicdomkaigaaPx6
import Derived.Test.YtofcicdomkaigaaPx7
import Derived.Test.YtofcicdomkaigaaPx8
namespace Go.Proofs.Ytofcicdomkaigaa.P
open Go.RowKit Go.Proofs.YtofcicdomkaigaaW.PrintWords Go.Proofs.YtofcicdomkaigaaW.PrintLast Go.Proofs.YtofcicdomkaigaaW.PrintMore
attribute [local go_sem] max2_int min2_int max_two min_two max_three min_three max_four min_four   -- for this text's walks alone
set_option linter.unusedVariables false
set_option linter.unusedSimpArgs false

end Go.Proofs.Ytofcicdomkaigaa.P
