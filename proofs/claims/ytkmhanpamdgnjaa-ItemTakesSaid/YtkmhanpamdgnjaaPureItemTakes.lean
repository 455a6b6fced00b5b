/- ItemTakes: of all bytes the item is told, or that they are none's; what is taken is put by just its bytes. No condition beyond the statement's own. -/
import Derived.Test.YtkmhanpamdgnjaaItem4
import Derived.Test.YtkmhanpamdgnjaaP7
import Derived.Test.YtkmhanpamdgnjaaGoalItemTakes
namespace Go.Proofs.Ytkmhanpamdgnjaa.Pure
open Go.RowKit Go.Proofs.Ytkmhanpamdgnjaa Go.Proofs.Ytkmhanpamdgnjaa.P Go.Proofs.YtkmhanpamdgnjaaW.PrintWords Go.Proofs.YtkmhanpamdgnjaaW.PrintLast
set_option linter.unusedVariables false
theorem ItemTakes : cenotaphlaw07_ItemTakes.Pure := by
  intro l0 _ hb0
  refine ⟨100, ?_⟩
  have hb : ∀ x ∈ l0.take 200, 0 ≤ x ∧ x < 256 := fun x hx => wf_u8 (hb0 x (List.mem_of_mem_take hx))
  have hl : (l0.take 200).length ≤ 300 := by rw [List.length_take]; omega
  rw [cenotaphlaw07_ItemTakes.f]
  generalize l0.take 200 = L at hb hl
  obtain ⟨I, ok, a, e, h1, h2, h3, h4⟩ := take_all L hb hl
  rw [h1, Option.bind_some, h2, Option.bind_some, if_pos ⟨rfl, h3, (It.eq_iff I I).mpr rfl, rfl⟩]
  cases ok with
  | false => exact if_pos rfl
  | true =>
    obtain ⟨ho, r, hr⟩ := h4 rfl
    dsimp only
    rw [if_neg (by decide), put_item ho [] (by decide), Option.bind_some, List.nil_append]
    refine if_pos ⟨?_, ?_⟩
    · rw [hr, List.length_append]; omega
    · rw [hr, List.take_left]
end Go.Proofs.Ytkmhanpamdgnjaa.Pure
