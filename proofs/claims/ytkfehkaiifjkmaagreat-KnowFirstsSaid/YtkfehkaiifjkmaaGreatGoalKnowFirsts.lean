import Derived.Test.YtkfehkaiifjkmaaGreatP10
namespace Go.Proofs.YtkfehkaiifjkmaaGreat.P
open Go.RowKit Go.Proofs.YtkfehkaiifjkmaaGreatW.PrintWords
def cenotaphlaw04_KnowFirsts.Pure : Prop := ∀ (l0 : List (S61)) (l1 : List (S65)) (l2 : List ByteArray), l0.length ≤ maxLen → (∀ x ∈ l0, (fun y => (fun x => x.size ≤ maxLen) y.f0 ∧ (fun y => (fun x => (Lit.int .i64 x).wf = true) y.f0 ∧ (fun l => l.length ≤ maxLen ∧ ∀ x ∈ l, (fun x => (Lit.int .i64 x).wf = true) x) y.f1) y.f1) x) → l1.length ≤ maxLen → (∀ x ∈ l1, (fun y => (fun x => x.size ≤ maxLen) y.f0 ∧ (fun x => (Lit.int .i64 x).wf = true) y.f1) x) → l2.length ≤ maxLen → (∀ x ∈ l2, (fun x => x.size ≤ maxLen) x) → ∃ k, cenotaphlaw04_KnowFirsts.f k l0 l1 l2 = some true
end Go.Proofs.YtkfehkaiifjkmaaGreat.P
