/- ItemOnce: two items that may be have the same bytes just if they are the same. No condition beyond the statement's own. -/
import Derived.Test.YtkmhanpamdgnjaaItem2
import Derived.Test.YtkmhanpamdgnjaaP9
import Derived.Test.YtkmhanpamdgnjaaGoalItemOnce
namespace Go.Proofs.Ytkmhanpamdgnjaa.Pure
open Go.RowKit Go.Proofs.Ytkmhanpamdgnjaa Go.Proofs.Ytkmhanpamdgnjaa.P Go.Proofs.YtkmhanpamdgnjaaW.PrintWords Go.Proofs.YtkmhanpamdgnjaaW.PrintLast
set_option linter.unusedVariables false
theorem ItemOnce : cenotaphlaw07_ItemOnce.Pure := by
  intro y0 y1 _ _
  refine ⟨100, ?_⟩
  obtain ⟨X, hX, oX⟩ := fix_ok y0.f0 y0.f1.f0 y0.f1.f1 y0.f1.f2 y0.f2 y0.f3.f0 y0.f3.f1 y0.f4 y0.f5
  obtain ⟨Y, hY, oY⟩ := fix_ok y1.f0 y1.f1.f0 y1.f1.f1 y1.f1.f2 y1.f2 y1.f3.f0 y1.f3.f1 y1.f4 y1.f5
  rw [cenotaphlaw07_ItemOnce.f, hX, Option.bind_some, hY, Option.bind_some, put_item oX [] (by decide), Option.bind_some, put_item oY [] (by decide), Option.bind_some, if_pos ⟨oX.ok, oY.ok⟩, List.nil_append, List.nil_append]
  refine if_pos ?_
  by_cases h : X = Y
  · subst h
    rw [beq_self_eq_true, (It.eq_iff X X).mpr rfl]
  · have e1 : X.eq Y = false := by
      cases he : X.eq Y with
      | false => rfl
      | true => exact absurd ((It.eq_iff X Y).mp he) h
    rw [e1]
    exact beq_eq_false_iff_ne.mpr (fun hs => h (encI_inj oX oY (str_inj (encI_bytes oX) (encI_bytes oY) hs)))
end Go.Proofs.Ytkmhanpamdgnjaa.Pure
