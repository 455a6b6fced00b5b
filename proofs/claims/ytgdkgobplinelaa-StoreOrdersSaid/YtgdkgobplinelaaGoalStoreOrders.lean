-- Written by a program of this session (wip/pp.py over the kit's printer, with our own texts put in).
import Derived.Test.YtgdkgobplinelaaP18
namespace Go.Proofs.Ytgdkgobplinelaa.P
open Go.RowKit Go.Proofs.YtgdkgobplinelaaW.PrintWords
/-- What is to be shown of cenotaphlaw08.StoreOrders: its row follows from it. -/
def cenotaphlaw08_StoreOrders.Pure : Prop := ∀ (l0 : List (S28)) (l1 : List Int), l0.length ≤ maxLen → (∀ x ∈ l0, (fun y => (fun x => (Lit.int .i64 x).wf = true) y.f0 ∧ ((fun y => (fun x => x.size ≤ maxLen) y.f0 ∧ ((fun x => (Lit.int .i64 x).wf = true) y.f1 ∧ (fun x => (Lit.int .i64 x).wf = true) y.f2)) y.f1 ∧ ((fun _ => True) y.f2 ∧ ((fun y => (fun x => (Lit.int .i64 x).wf = true) y.f0 ∧ (fun x => (Lit.int .i64 x).wf = true) y.f1) y.f3 ∧ ((fun x => x.size ≤ maxLen) y.f4 ∧ (fun _ => True) y.f5))))) x) → l1.length ≤ maxLen → (∀ x ∈ l1, (fun x => (Lit.int .i64 x).wf = true) x) → ∃ k, cenotaphlaw08_StoreOrders.f k l0 l1 = some true
end Go.Proofs.Ytgdkgobplinelaa.P
