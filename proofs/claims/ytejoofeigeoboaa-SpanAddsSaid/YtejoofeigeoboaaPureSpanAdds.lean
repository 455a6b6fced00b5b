/- SpanAdds: of all Spans and numbers what there is then, whether the number is there, how many and which one is the greatest is told; what is handed in stays. No condition beyond the statement's own. -/
import Derived.Test.YtejoofeigeoboaaSpans4
import Derived.Test.YtejoofeigeoboaaP7
import Derived.Test.YtejoofeigeoboaaGoalSpanAdds
namespace Go.Proofs.Ytejoofeigeoboaa.Pure
open Go.RowKit Go.Proofs.Ytejoofeigeoboaa Go.Proofs.Ytejoofeigeoboaa.P Go.Proofs.YtejoofeigeoboaaW.PrintWords Go.Proofs.YtejoofeigeoboaaW.PrintLast
set_option linter.unusedVariables false
theorem SpanAdds : cenotaphlaw02_SpanAdds.Pure := by
  rintro y0 n ⟨hu, hl, hw⟩ hn
  have hM : maxLen ≤ 9223372036854775807 := by decide
  refine ⟨1000, ?_⟩
  obtain ⟨u, e, hf, ok, hm, hlen⟩ := ref_fix y0.f0 y0.f1 hu (by omega) hw 1000 (by omega)
  obtain ⟨a, b, c⟩ := addS_ok ok n
  unfold cenotaphlaw02_SpanAdds.f
  rw [hf, Option.bind_some]
  dsimp only
  rw [to_ok _ _ (by omega), Option.bind_some]
  dsimp only
  rw [span_add u e n ok (by omega) _ (by omega), Option.bind_some, ref_add u e n ok (by omega) _ (by omega), Option.bind_some, told_ok _ (by omega), Option.bind_some, if_pos rfl]
  generalize addS u e n = y at a b c ⊢
  obtain ⟨v, l⟩ := y
  dsimp only at a b c ⊢
  have hsame : ∀ (v : Int) (l : List Int), l.length ≤ 100 → cenotaphref02_Same.f 1000 v l v l = some true := fun v l h => by
    rw [ref_same v v l l (by omega) _ (by omega), decide_eq_true ⟨rfl, rfl⟩]
  have hmem : memS v l n ↔ 1 ≤ n ∧ n ≤ 1048576 := by
    constructor
    · intro h; exact a.mem_pos h
    · intro h; exact (b n).mpr (Or.inr ⟨rfl, h⟩)
  rw [from_ok _ _ (by omega), Option.bind_some]
  dsimp only
  rw [hsame v l (by omega), Option.bind_some, if_pos rfl, span_right _ _ (by omega) _ (by omega), Option.bind_some, rightS_ok a (by omega), if_pos rfl, span_has u e n ok (by omega) _ (by omega), Option.bind_some, ref_has u e n (by omega) _ (by omega), Option.bind_some, if_pos (by simp), span_has v l n a (by omega) _ (by omega), Option.bind_some]
  rw [span_count v l a (by omega), ref_count v l a (by omega), span_top v l (by omega), ref_top v l (by omega)]
  simp only [Option.bind_some, if_true, from_ok u e (by omega), hsame u e (by omega)]
  by_cases h1 : n ≥ 1
  · rw [if_pos h1]
    have : decide (memS v l n) = decide (n ≤ 1048576) := by rw [decide_eq_decide, hmem]; exact ⟨fun h => h.2, fun h => ⟨h1, h⟩⟩
    rw [this, if_pos (by simp)]
  · rw [if_neg h1, decide_eq_false (fun h => h1 (hmem.mp h).1), if_pos (by rfl)]
end Go.Proofs.Ytejoofeigeoboaa.Pure
