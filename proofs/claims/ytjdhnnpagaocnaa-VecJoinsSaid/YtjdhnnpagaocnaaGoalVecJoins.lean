-- Written by a program of this session (wip/pp.py over the kit's printer, with our own texts put in).
import Derived.Test.YtjdhnnpagaocnaaP17
namespace Go.Proofs.Ytjdhnnpagaocnaa.P
open Go.RowKit Go.Proofs.YtjdhnnpagaocnaaW.PrintWords
/-- What is to be shown of cenotaphlaw03.VecJoins: its row follows from it. -/
def cenotaphlaw03_VecJoins.Pure : Prop := ∀ (l0 : List (S33)) (l1 : List (S33)) (l2 : List (S33)), l0.length ≤ maxLen → (∀ x ∈ l0, (fun y => (fun x => x.size ≤ maxLen) y.f0 ∧ (fun x => (Lit.int .i64 x).wf = true) y.f1) x) → l1.length ≤ maxLen → (∀ x ∈ l1, (fun y => (fun x => x.size ≤ maxLen) y.f0 ∧ (fun x => (Lit.int .i64 x).wf = true) y.f1) x) → l2.length ≤ maxLen → (∀ x ∈ l2, (fun y => (fun x => x.size ≤ maxLen) y.f0 ∧ (fun x => (Lit.int .i64 x).wf = true) y.f1) x) → ∃ k, cenotaphlaw03_VecJoins.f k l0 l1 l2 = some true
end Go.Proofs.Ytjdhnnpagaocnaa.P
