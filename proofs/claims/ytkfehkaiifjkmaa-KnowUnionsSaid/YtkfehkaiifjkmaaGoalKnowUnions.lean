-- Written by a program of this session (wip/pp.py over the kit's printer, with our own texts put in).
import Derived.Test.YtkfehkaiifjkmaaP13
namespace Go.Proofs.Ytkfehkaiifjkmaa.P
open Go.RowKit Go.Proofs.YtkfehkaiifjkmaaW.PrintWords
/-- What is to be shown of cenotaphlaw04.KnowUnions: its row follows from it. -/
def cenotaphlaw04_KnowUnions.Pure : Prop := ∀ (l0 : List (S27)) (l1 : List (S27)) (l2 : List (S27)), l0.length ≤ maxLen → (∀ x ∈ l0, (fun y => (fun x => x.size ≤ maxLen) y.f0 ∧ (fun y => (fun x => (Lit.int .i64 x).wf = true) y.f0 ∧ (fun l => l.length ≤ maxLen ∧ ∀ x ∈ l, (fun x => (Lit.int .i64 x).wf = true) x) y.f1) y.f1) x) → l1.length ≤ maxLen → (∀ x ∈ l1, (fun y => (fun x => x.size ≤ maxLen) y.f0 ∧ (fun y => (fun x => (Lit.int .i64 x).wf = true) y.f0 ∧ (fun l => l.length ≤ maxLen ∧ ∀ x ∈ l, (fun x => (Lit.int .i64 x).wf = true) x) y.f1) y.f1) x) → l2.length ≤ maxLen → (∀ x ∈ l2, (fun y => (fun x => x.size ≤ maxLen) y.f0 ∧ (fun y => (fun x => (Lit.int .i64 x).wf = true) y.f0 ∧ (fun l => l.length ≤ maxLen ∧ ∀ x ∈ l, (fun x => (Lit.int .i64 x).wf = true) x) y.f1) y.f1) x) → ∃ k, cenotaphlaw04_KnowUnions.f k l0 l1 l2 = some true
end Go.Proofs.Ytkfehkaiifjkmaa.P
