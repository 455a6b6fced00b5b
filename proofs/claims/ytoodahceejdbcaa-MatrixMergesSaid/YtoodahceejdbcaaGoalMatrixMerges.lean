-- Written by a program of this session (wip/pp.py over the kit's printer, with our own texts put in).
import Derived.Test.YtoodahceejdbcaaP16
namespace Go.Proofs.Ytoodahceejdbcaa.P
open Go.RowKit Go.Proofs.YtoodahceejdbcaaW.PrintWords
/-- What is to be shown of cenotaphlaw10.MatrixMerges: its row follows from it. -/
def cenotaphlaw10_MatrixMerges.Pure : Prop := ∀ (l0 : List (S25)) (l1 : List (S25)) (l2 : List ByteArray), l0.length ≤ maxLen → (∀ x ∈ l0, (fun y => (fun x => x.size ≤ maxLen) y.f0 ∧ (fun l => l.length ≤ maxLen ∧ ∀ x ∈ l, (fun y => (fun x => x.size ≤ maxLen) y.f0 ∧ (fun x => (Lit.int .i64 x).wf = true) y.f1) x) y.f1) x) → l1.length ≤ maxLen → (∀ x ∈ l1, (fun y => (fun x => x.size ≤ maxLen) y.f0 ∧ (fun l => l.length ≤ maxLen ∧ ∀ x ∈ l, (fun y => (fun x => x.size ≤ maxLen) y.f0 ∧ (fun x => (Lit.int .i64 x).wf = true) y.f1) x) y.f1) x) → l2.length ≤ maxLen → (∀ x ∈ l2, (fun x => x.size ≤ maxLen) x) → ∃ k, cenotaphlaw10_MatrixMerges.f k l0 l1 l2 = some true
end Go.Proofs.Ytoodahceejdbcaa.P
