-- Written by a program of this session (wip/pp.py over the kit's printer, with our own texts put in).
import Derived.Test.YtkfehkaiifjkmaaP0
import Derived.Test.YtkfehkaiifjkmaaP4
namespace Go.Proofs.Ytkfehkaiifjkmaa.P
open Go.RowKit Go.Proofs.YtkfehkaiifjkmaaW.PrintWords Go.Proofs.YtkfehkaiifjkmaaW.PrintLast Go.Proofs.YtkfehkaiifjkmaaW.PrintMore
attribute [local go_sem] max2_int min2_int max_two min_two max_three min_three max_four min_four   -- for this text's walks alone
set_option linter.unusedVariables false
set_option linter.unusedSimpArgs false

/-! ### cenotaphref04_Drop: function 17 -/
/-! ### cenotaphref04_put: function 43 -/
/-! ### cenotaphref01_Fix: function 44 -/
/-! ### cenotaphref02_Has: function 55 -/
/-! ### cenotaphref02_Add: function 51 -/
end Go.Proofs.Ytkfehkaiifjkmaa.P
