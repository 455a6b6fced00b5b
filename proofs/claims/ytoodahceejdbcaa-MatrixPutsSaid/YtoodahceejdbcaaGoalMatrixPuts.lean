-- Written by a program of this session (wip/pp.py over the kit's printer, with our own texts put in).
import Derived.Test.YtoodahceejdbcaaP16
namespace Go.Proofs.Ytoodahceejdbcaa.P
open Go.RowKit Go.Proofs.YtoodahceejdbcaaW.PrintWords
/-- What is to be shown of cenotaphlaw10.MatrixPuts: its row follows from it. -/
def cenotaphlaw10_MatrixPuts.Pure : Prop := ∀ (l0 : List (S25)) (a1 : ByteArray) (l2 : List (S76)), l0.length ≤ maxLen → (∀ x ∈ l0, (fun y => (fun x => x.size ≤ maxLen) y.f0 ∧ (fun l => l.length ≤ maxLen ∧ ∀ x ∈ l, (fun y => (fun x => x.size ≤ maxLen) y.f0 ∧ (fun x => (Lit.int .i64 x).wf = true) y.f1) x) y.f1) x) → a1.size ≤ 140737488351232 → l2.length ≤ maxLen → (∀ x ∈ l2, (fun y => (fun x => x.size ≤ maxLen) y.f0 ∧ (fun x => (Lit.int .i64 x).wf = true) y.f1) x) → ∃ k, cenotaphlaw10_MatrixPuts.f k l0 a1 l2 = some true
end Go.Proofs.Ytoodahceejdbcaa.P
