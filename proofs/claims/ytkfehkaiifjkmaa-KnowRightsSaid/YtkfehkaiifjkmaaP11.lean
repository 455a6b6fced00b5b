-- Written by a program of this session (wip/pp.py over the kit's printer, with our own texts put in).
import Derived.Test.YtkfehkaiifjkmaaP0
import Derived.Test.YtkfehkaiifjkmaaP1
import Derived.Test.YtkfehkaiifjkmaaP2
import Derived.Test.YtkfehkaiifjkmaaP3
import Derived.Test.YtkfehkaiifjkmaaP4
import Derived.Test.YtkfehkaiifjkmaaP5
import Derived.Test.YtkfehkaiifjkmaaP6
import Derived.Test.YtkfehkaiifjkmaaP7
import Derived.Test.YtkfehkaiifjkmaaP8
namespace Go.Proofs.Ytkfehkaiifjkmaa.P
open Go.RowKit Go.Proofs.YtkfehkaiifjkmaaW.PrintWords Go.Proofs.YtkfehkaiifjkmaaW.PrintLast Go.Proofs.YtkfehkaiifjkmaaW.PrintMore
attribute [local go_sem] max2_int min2_int max_two min_two max_three min_three max_four min_four   -- for this text's walks alone
set_option linter.unusedVariables false
set_option linter.unusedSimpArgs false

/-! ### know_Drop: function 13 -/
/-! ### cenotaphref04_Add: function 16 -/
/-! ### cenotaphref04_Has: function 23 -/
/-! ### cenotaphref04_Count: function 25 -/
/-! ### cenotaphref04_Extras: function 27 -/
/-! ### cenotaphlaw04_KnowAdds: function 4 -/
end Go.Proofs.Ytkfehkaiifjkmaa.P
