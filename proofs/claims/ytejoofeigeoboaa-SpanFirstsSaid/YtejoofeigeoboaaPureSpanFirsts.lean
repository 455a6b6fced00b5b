/- SpanFirsts: of all numbers the first ones are told. No condition beyond the statement's own. -/
import Derived.Test.YtejoofeigeoboaaSpans4
import Derived.Test.YtejoofeigeoboaaP2
namespace Go.Proofs.Ytejoofeigeoboaa.Pure
open Go.RowKit Go.Proofs.Ytejoofeigeoboaa Go.Proofs.Ytejoofeigeoboaa.P Go.Proofs.YtejoofeigeoboaaW.PrintWords Go.Proofs.YtejoofeigeoboaaW.PrintLast
set_option linter.unusedVariables false
theorem SpanFirsts : cenotaphlaw02_SpanFirsts.Pure := by
  intro n k hn hk
  refine ⟨100, ?_⟩
  unfold cenotaphlaw02_SpanFirsts.f
  have hok : OkS (max 0 (min n 1048576)) [] := OkS.nil (by omega) (by omega)
  rw [first_ok, Option.bind_some, told_ok _ (by omega), Option.bind_some, if_pos rfl, mx_max, mn_min]
  dsimp only
  generalize max 0 (min n 1048576) = m at hok ⊢
  have hc : span_Count.f m [] = some m := by
    have := span_count m [] hok (by decide)
    simpa using this
  rw [if_pos rfl, if_pos (by rfl), hc, Option.bind_some, if_pos rfl, span_has m [] k hok (by decide) _ (by simp), Option.bind_some]
  have hm : memS m [] k ↔ 1 ≤ k ∧ k ≤ m := by unfold memS; simp
  by_cases h1 : k ≥ 1
  · rw [if_pos h1]
    have : decide (memS m [] k) = decide (k ≤ m) := by rw [decide_eq_decide, hm]; exact ⟨fun h => h.2, fun h => ⟨h1, h⟩⟩
    rw [this]; simp
  · rw [if_neg h1, decide_eq_false (fun h => h1 (hm.mp h).1)]; rfl
end Go.Proofs.Ytejoofeigeoboaa.Pure
