-- Written by a program of this session (wip/pp.py over the kit's printer, with our own texts put in).
import Derived.Test.YtkfehkaiifjkmaaP0
namespace Go.Proofs.Ytkfehkaiifjkmaa.P
open Go.RowKit Go.Proofs.YtkfehkaiifjkmaaW.PrintWords Go.Proofs.YtkfehkaiifjkmaaW.PrintLast Go.Proofs.YtkfehkaiifjkmaaW.PrintMore
attribute [local go_sem] max2_int min2_int max_two min_two max_three min_three max_four min_four   -- for this text's walks alone
set_option linter.unusedVariables false
set_option linter.unusedSimpArgs false

/-! ### cenotaphref02_Same: function 18 -/
/-! ### cenotaphref04_Same: function 14 -/
/-! ### cenotaphlaw02_From: function 19 -/
/-! ### cenotaphlaw04_From: function 15 -/
/-! ### cenotaphref04_Of: function 21 -/
end Go.Proofs.Ytkfehkaiifjkmaa.P
