-- Written by a program of this session (wip/pp.py over the kit's printer, with our own texts put in).
import Derived.Test.YtkfehkaiifjkmaaP0
import Derived.Test.YtkfehkaiifjkmaaP1
import Derived.Test.YtkfehkaiifjkmaaP2
import Derived.Test.YtkfehkaiifjkmaaP3
namespace Go.Proofs.Ytkfehkaiifjkmaa.P
open Go.RowKit Go.Proofs.YtkfehkaiifjkmaaW.PrintWords Go.Proofs.YtkfehkaiifjkmaaW.PrintLast Go.Proofs.YtkfehkaiifjkmaaW.PrintMore
attribute [local go_sem] max2_int min2_int max_two min_two max_three min_three max_four min_four   -- for this text's walks alone
set_option linter.unusedVariables false
set_option linter.unusedSimpArgs false

/-! ### know_Union: function 28 -/
instance (l : List S61) : Decidable (okM l) := by unfold okM; infer_instance
/-! ### know_Same: function 32 -/
/-- Row by row: the same name, and as far. -/
def sameQ (k : Nat) (x y : S61) : Option Bool := if x.f0 = y.f0 then span_Same.f k x.f1.f0 x.f1.f1 y.f1.f0 y.f1.f1 else some false
def sameAll (k : Nat) (a b : List S61) : Prop := ∀ i, i < a.length → (sameQ k (a.getD i z61) (b.getD i z61)).isSome = true
instance (k : Nat) (a b : List S61) : Decidable (sameAll k a b) := by unfold sameAll; infer_instance
end Go.Proofs.Ytkfehkaiifjkmaa.P
