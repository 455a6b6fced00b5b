/- SpanGroups: of three Spans it doesn't count which two go together first; what is in two is in the third with them. No condition beyond the statement's own. -/
import Derived.Test.YtejoofeigeoboaaSpans4
import Derived.Test.YtejoofeigeoboaaP12
import Derived.Test.YtejoofeigeoboaaGoalSpanGroups
namespace Go.Proofs.Ytejoofeigeoboaa.Pure
open Go.RowKit Go.Proofs.Ytejoofeigeoboaa Go.Proofs.Ytejoofeigeoboaa.P Go.Proofs.YtejoofeigeoboaaW.PrintWords Go.Proofs.YtejoofeigeoboaaW.PrintLast
set_option linter.unusedVariables false
theorem union_assoc {u1 u2 u3 : Int} {e1 e2 e3 : List Int} (h1 : OkS u1 e1) (h2 : OkS u2 e2) (h3 : OkS u3 e3) :
    unionS (unionS u1 e1 u2 e2).1 (unionS u1 e1 u2 e2).2 u3 e3 = unionS u1 e1 (unionS u2 e2 u3 e3).1 (unionS u2 e2 u3 e3).2 := by
  obtain ⟨a, b, c⟩ := unionS_spec h1 h2
  obtain ⟨a2, b2, c2⟩ := unionS_spec h2 h3
  obtain ⟨a3, b3, c3⟩ := unionS_spec a h3
  obtain ⟨a4, b4, c4⟩ := unionS_spec h1 a2
  obtain ⟨s1, s2⟩ := okS_unique a3 a4 fun n => by rw [b3, b4, b, b2, or_assoc]
  exact Prod.ext s1 s2
theorem union_self {u : Int} {e : List Int} (h : OkS u e) : unionS u e u e = (u, e) := by
  obtain ⟨a, b, c⟩ := unionS_spec h h
  obtain ⟨s1, s2⟩ := okS_unique a h fun n => by rw [b, or_self]
  exact Prod.ext s1 s2
theorem SpanGroups : cenotaphlaw02_SpanGroups.Pure := by
  rintro y0 y1 y2 ⟨hu, hl, hw⟩ ⟨hu', hl', hw'⟩ ⟨hu2, hl2, hw2⟩
  have hM : maxLen ≤ 9223372036854775807 := by decide
  refine ⟨1500000, ?_⟩
  generalize hkk : 1500000 = k
  obtain ⟨u, e, hf, ok, hm, hlen⟩ := ref_fix y0.f0 y0.f1 hu (by omega) hw k (by omega)
  obtain ⟨u', e', hf', ok', hm', hlen'⟩ := ref_fix y1.f0 y1.f1 hu' (by omega) hw' k (by omega)
  obtain ⟨v, d, hf2, ok2, hm2, hlen2⟩ := ref_fix y2.f0 y2.f1 hu2 (by omega) hw2 k (by omega)
  obtain ⟨a, b, c⟩ := unionS_spec ok ok'
  obtain ⟨a2, b2, c2⟩ := unionS_spec ok' ok2
  have hA := union_assoc ok ok' ok2
  unfold cenotaphlaw02_SpanGroups.f
  rw [hf, Option.bind_some]
  dsimp only
  rw [to_ok _ _ (by omega), Option.bind_some, hf', Option.bind_some]
  dsimp only
  rw [to_ok _ _ (by omega), Option.bind_some, hf2, Option.bind_some]
  dsimp only
  rw [to_ok _ _ (by omega), Option.bind_some, told_ok k (by omega), Option.bind_some, if_pos rfl]
  dsimp only
  rw [span_union u u' e e' ok ok' (by omega) k (by omega), Option.bind_some]
  rw [span_union _ v _ d a ok2 (by omega) k (by omega), Option.bind_some]
  rw [span_union u' v e' d ok' ok2 (by omega) k (by omega), Option.bind_some]
  rw [span_union u _ e _ ok a2 (by omega) k (by omega), Option.bind_some, ← hA]
  obtain ⟨a3, b3, c3⟩ := unionS_spec a ok2
  generalize unionS (unionS u e u' e').1 (unionS u e u' e').2 v d = y at a3 b3 c3 ⊢
  rw [span_same _ _ _ _ (by omega) k (by omega), Option.bind_some, if_pos (by simp)]
  rw [span_union u u e e ok ok (by omega) k (by omega), Option.bind_some, union_self ok]
  dsimp only
  rw [span_same u u e e (by omega) k (by omega), Option.bind_some]
  rw [if_pos (by simp)]
  obtain ⟨w1, hw1, iw1⟩ := span_within u u' e e' ok ok' (by omega) k (by omega)
  obtain ⟨w2, hw2, iw2⟩ := span_within u' v e' d ok' ok2 (by omega) k (by omega)
  obtain ⟨w3, hw3, iw3⟩ := span_within u v e d ok ok2 (by omega) k (by omega)
  rw [hw1, Option.bind_some]
  by_cases h1 : w1 = true
  · rw [if_pos h1, hw2, Option.bind_some]
    by_cases h2 : w2 = true
    · rw [if_pos h2, hw3]
      exact congrArg some (iw3.mpr fun n hn => iw2.mp h2 n (iw1.mp h1 n hn))
    · rw [if_neg h2]
  · rw [if_neg h1]
end Go.Proofs.Ytejoofeigeoboaa.Pure
