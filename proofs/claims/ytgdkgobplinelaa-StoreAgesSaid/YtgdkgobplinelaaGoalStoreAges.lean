import Derived.Test.YtgdkgobplinelaaP24
namespace Go.Proofs.Ytgdkgobplinelaa.P
open Go.RowKit Go.Proofs.YtgdkgobplinelaaW.PrintWords
def cenotaphlaw08_StoreAges.Pure : Prop := ∀ (l0 : List (S28)) (l1 : List (S91)), l0.length ≤ maxLen → (∀ x ∈ l0, (fun y => (fun x => (Lit.int .i64 x).wf = true) y.f0 ∧ ((fun y => (fun x => x.size ≤ maxLen) y.f0 ∧ ((fun x => (Lit.int .i64 x).wf = true) y.f1 ∧ (fun x => (Lit.int .i64 x).wf = true) y.f2)) y.f1 ∧ ((fun _ => True) y.f2 ∧ ((fun y => (fun x => (Lit.int .i64 x).wf = true) y.f0 ∧ (fun x => (Lit.int .i64 x).wf = true) y.f1) y.f3 ∧ ((fun x => x.size ≤ maxLen) y.f4 ∧ (fun _ => True) y.f5))))) x) → l1.length ≤ maxLen → (∀ x ∈ l1, (fun y => (fun x => x.size ≤ maxLen) y.f0 ∧ (fun y => (fun x => (Lit.int .i64 x).wf = true) y.f0 ∧ (fun l => l.length ≤ maxLen ∧ ∀ x ∈ l, (fun x => (Lit.int .i64 x).wf = true) x) y.f1) y.f1) x) → ∃ k, cenotaphlaw08_StoreAges.f k l0 l1 = some true
end Go.Proofs.Ytgdkgobplinelaa.P
