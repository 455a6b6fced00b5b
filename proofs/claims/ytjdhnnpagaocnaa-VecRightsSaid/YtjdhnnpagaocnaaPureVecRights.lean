/- VecRights: of all Vecs it is told whether they may be. No condition beyond the statement's own. -/
import Derived.Test.YtjdhnnpagaocnaaVecs4
import Derived.Test.YtjdhnnpagaocnaaVecs7
import Derived.Test.YtjdhnnpagaocnaaP13
import Derived.Test.YtjdhnnpagaocnaaGoalVecRights
namespace Go.Proofs.Ytjdhnnpagaocnaa.Pure
open Go.RowKit Go.Proofs.Ytjdhnnpagaocnaa Go.Proofs.Ytjdhnnpagaocnaa.P Go.Proofs.YtjdhnnpagaocnaaW.PrintWords Go.Proofs.YtjdhnnpagaocnaaW.PrintLast
set_option linter.unusedVariables false
theorem VecRights : cenotaphlaw03_VecRights.Pure := by
  intro l0 hl hw
  refine ⟨6000, ?_⟩
  unfold cenotaphlaw03_VecRights.f
  have e : mn (l0.length : Int) 40 = ((min l0.length 40 : Nat) : Int) := mn_nat _ 40
  have hle : (l0.take (min l0.length 40)).length ≤ 40 := by rw [List.length_take]; omega
  rw [e, if_pos (by omega), if_pos (by omega), Int.toNat_natCast, Option.bind_some, told_ok3 _ (by omega), Option.bind_some, if_pos rfl, to3 _ (by omega) _ (by omega), Option.bind_some,
    vec_right _ (by rw [convV_length]; omega) _ (by rw [convV_length]; omega), Option.bind_some, ref_right3 _ (by omega) _ (by omega), Option.bind_some, rightVB_conv]
  simp
end Go.Proofs.Ytjdhnnpagaocnaa.Pure
