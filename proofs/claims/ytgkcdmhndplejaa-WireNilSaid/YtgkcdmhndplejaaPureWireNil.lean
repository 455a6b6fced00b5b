/- WireNil: of a Reader that isn't there nothing is taken. No condition beyond the statement's own. -/
import Derived.Test.YtgkcdmhndplejaaP7
import Derived.Test.YtgkcdmhndplejaaGoalWireNil
namespace Go.Proofs.Ytgkcdmhndplejaa.Pure
open Go.RowKit Go.Proofs.Ytgkcdmhndplejaa Go.Proofs.Ytgkcdmhndplejaa.P Go.Proofs.YtgkcdmhndplejaaW.PrintWords Go.Proofs.YtgkcdmhndplejaaW.PrintLast
theorem WireNil : cenotaphlaw06_WireNil.Pure := by
  intro a0 _
  first | rfl | exact ⟨0, rfl⟩
end Go.Proofs.Ytgkcdmhndplejaa.Pure
