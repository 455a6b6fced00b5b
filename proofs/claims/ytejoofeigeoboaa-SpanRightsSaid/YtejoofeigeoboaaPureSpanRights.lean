/- SpanRights: of all Spans it is told whether they may be. No condition beyond the statement's own. -/
import Derived.Test.YtejoofeigeoboaaSpans4
import Derived.Test.YtejoofeigeoboaaP4
import Derived.Test.YtejoofeigeoboaaGoalSpanRights
namespace Go.Proofs.Ytejoofeigeoboaa.Pure
open Go.RowKit Go.Proofs.Ytejoofeigeoboaa Go.Proofs.Ytejoofeigeoboaa.P Go.Proofs.YtejoofeigeoboaaW.PrintWords Go.Proofs.YtejoofeigeoboaaW.PrintLast
set_option linter.unusedVariables false
theorem SpanRights : cenotaphlaw02_SpanRights.Pure := by
  rintro y0 ⟨hu, hl, hw⟩
  refine ⟨6000, ?_⟩
  unfold cenotaphlaw02_SpanRights.f
  have e : mn (y0.f1.length : Int) 5000 = ((min y0.f1.length 5000 : Nat) : Int) := mn_nat _ 5000
  have hle : (y0.f1.take (min y0.f1.length 5000)).length ≤ 5000 := by rw [List.length_take]; omega
  rw [e, if_pos (by omega), if_pos (by omega), Int.toNat_natCast, told_ok _ (by omega), Option.bind_some, if_pos rfl, to_ok _ _ (by omega), Option.bind_some]
  show (span_Right.f 6000 y0.f0 (y0.f1.take (min y0.f1.length 5000))).bind _ = _
  rw [span_right _ _ (by omega) _ (by omega), Option.bind_some, ref_right _ _ (by omega) _ (by omega), Option.bind_some]
  simp
end Go.Proofs.Ytejoofeigeoboaa.Pure
