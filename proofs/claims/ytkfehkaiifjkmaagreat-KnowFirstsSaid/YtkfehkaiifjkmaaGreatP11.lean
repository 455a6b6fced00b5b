import Derived.Test.YtkfehkaiifjkmaaGreatP0
import Derived.Test.YtkfehkaiifjkmaaGreatP3
import Derived.Test.YtkfehkaiifjkmaaGreatP4
import Derived.Test.YtkfehkaiifjkmaaGreatP5
import Derived.Test.YtkfehkaiifjkmaaGreatP6
import Derived.Test.YtkfehkaiifjkmaaGreatP7
import Derived.Test.YtkfehkaiifjkmaaGreatP8
namespace Go.Proofs.YtkfehkaiifjkmaaGreat.P
open Go.RowKit Go.Proofs.YtkfehkaiifjkmaaGreatW.PrintWords Go.Proofs.YtkfehkaiifjkmaaGreatW.PrintLast Go.Proofs.YtkfehkaiifjkmaaGreatW.PrintMore
attribute [local go_sem] max2_int min2_int max_two min_two max_three min_three max_four min_four
set_option linter.unusedVariables false
set_option linter.unusedSimpArgs false
instance (l : List S72) : Decidable (okM l) := by unfold okM; infer_instance
end Go.Proofs.YtkfehkaiifjkmaaGreat.P
