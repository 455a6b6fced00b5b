/- SpanUnions: of all two Spans the program's union, its order of parts and its sameness are the reference's; what is handed in stays. No condition beyond the statement's own. -/
import Derived.Test.YtejoofeigeoboaaSpans4
import Derived.Test.YtejoofeigeoboaaSpans5
import Derived.Test.YtejoofeigeoboaaP16
import Derived.Test.YtejoofeigeoboaaGoalSpanUnions
namespace Go.Proofs.Ytejoofeigeoboaa.Pure
open Go.RowKit Go.Proofs.Ytejoofeigeoboaa Go.Proofs.Ytejoofeigeoboaa.P Go.Proofs.YtejoofeigeoboaaW.PrintWords Go.Proofs.YtejoofeigeoboaaW.PrintLast
set_option linter.unusedVariables false
theorem bne_iff {a b : Bool} {p : Prop} (ha : a = true ↔ p) (hb : b = true ↔ p) : (a != b) = false := by
  cases a <;> cases b <;> simp_all
theorem beq_iff {a b : Bool} {p q : Prop} (ha : a = true ↔ p) (hb : b = true ↔ q) (h : p ↔ q) : (a == b) = true := by
  cases a <;> cases b <;> simp_all
theorem SpanUnions : cenotaphlaw02_SpanUnions.Pure := by
  rintro y0 y1 ⟨hu, hl, hw⟩ ⟨hu', hl', hw'⟩
  have hM : maxLen ≤ 9223372036854775807 := by decide
  refine ⟨1500000, ?_⟩
  generalize hkk : 1500000 = k
  obtain ⟨u, e, hf, ok, hm, hlen⟩ := ref_fix y0.f0 y0.f1 hu (by omega) hw k (by omega)
  obtain ⟨u', e', hf', ok', hm', hlen'⟩ := ref_fix y1.f0 y1.f1 hu' (by omega) hw' k (by omega)
  have hU : u ≤ 4000 := by
    by_cases h : 1 ≤ u
    · have := hm u (Or.inl ⟨h, Int.le_refl _⟩); omega
    · omega
  unfold cenotaphlaw02_SpanUnions.f
  rw [hf, Option.bind_some, hf', Option.bind_some]
  dsimp only
  rw [to_ok _ _ (by omega), Option.bind_some, to_ok _ _ (by omega), Option.bind_some]
  dsimp only
  rw [span_union u u' e e' ok ok' (by omega) k (by omega), Option.bind_some, span_union u' u e' e ok' ok (by omega) k (by omega), Option.bind_some, told_ok k (by omega), Option.bind_some, if_pos rfl]
  obtain ⟨a, b, c⟩ := unionS_spec ok ok'
  obtain ⟨a2, b2, c2⟩ := unionS_spec ok' ok
  obtain ⟨s1, s2⟩ := okS_unique a a2 fun n => (b n).trans (or_comm.trans (b2 n).symm)
  have hr := ref_union u u' e e' ok ok' (by omega) (by omega) k (by omega)
  have hsw : unionS u' e' u e = unionS u e u' e' := Prod.ext s1.symm s2.symm
  rw [hsw, hr]
  generalize unionS u e u' e' = y at a b c ⊢
  obtain ⟨v, l⟩ := y
  dsimp only at a b c ⊢
  have hsame : ∀ (v : Int) (l : List Int), l.length ≤ 100 → cenotaphref02_Same.f k v l v l = some true := fun v l h => by
    rw [ref_same v v l l (by omega) _ (by omega), decide_eq_true ⟨rfl, rfl⟩]
  obtain ⟨w1, hw1, iw1⟩ := span_within u u' e e' ok ok' (by omega) k (by omega)
  obtain ⟨w2, hw2, iw2⟩ := ref_within u e u' e' ok ok' hU (by omega) (by omega) k (by omega)
  obtain ⟨w3, hw3, iw3⟩ := span_within u v e l ok a (by omega) k (by omega)
  obtain ⟨w4, hw4, iw4⟩ := span_within u' v e' l ok' a (by omega) k (by omega)
  have e3 : w3 = true := iw3.mpr fun n hn => (b n).mpr (Or.inl hn)
  have e4 : w4 = true := iw4.mpr fun n hn => (b n).mpr (Or.inr hn)
  subst e3; subst e4
  rw [from_ok _ _ (by omega), Option.bind_some]
  dsimp only [Option.bind_some]
  rw [hsame v l (by omega), Option.bind_some, if_pos rfl, span_same v v l l (by omega) k (by omega), Option.bind_some, if_pos (by simp), span_right v l (by omega) k (by omega), Option.bind_some, if_pos (rightS_ok a (by omega)), hw1, Option.bind_some, hw2, Option.bind_some, if_neg (by rw [bne_iff iw1 iw2]; simp), span_same u u' e e' (by omega) k (by omega), Option.bind_some, ref_same u u' e e' (by omega) k (by omega), Option.bind_some, if_neg (by simp), hw3, Option.bind_some, if_pos rfl, hw4, Option.bind_some, if_pos rfl, Option.bind_some, span_same v u' l e' (by omega) k (by omega), Option.bind_some]
  rw [if_pos (beq_iff iw1 decide_eq_true_iff ?_)]
  · rw [from_ok _ _ (by omega), Option.bind_some]
    dsimp only
    rw [hsame u e (by omega), Option.bind_some, if_pos rfl, from_ok _ _ (by omega), Option.bind_some]
    dsimp only
    rw [hsame u' e' (by omega), Option.bind_some]
  · constructor
    · intro h
      exact okS_unique a ok' fun n => (b n).trans ⟨fun z => z.elim (h n) id, Or.inr⟩
    · rintro ⟨e1, e2⟩ n hn
      subst e1; subst e2
      exact (b n).mpr (Or.inl hn)
end Go.Proofs.Ytejoofeigeoboaa.Pure
