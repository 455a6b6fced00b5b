-- Written by a program of this session (wip/pp.py over the kit's printer, with our own texts put in).
import Derived.Test.YtloeealbggobjaaP14
namespace Go.Proofs.Ytloeealbggobjaa.P
open Go.RowKit Go.Proofs.YtloeealbggobjaaW.PrintWords
/-- What is to be shown of cenotaphlaw09.CertMerges: its row follows from it. -/
def cenotaphlaw09_CertMerges.Pure : Prop := ∀ (l0 : List (S56)) (l1 : List (S56)) (l2 : List (S56)), l0.length ≤ maxLen → (∀ x ∈ l0, (fun y => (fun x => x.size ≤ maxLen) y.f0 ∧ (fun x => (Lit.int .i64 x).wf = true) y.f1) x) → l1.length ≤ maxLen → (∀ x ∈ l1, (fun y => (fun x => x.size ≤ maxLen) y.f0 ∧ (fun x => (Lit.int .i64 x).wf = true) y.f1) x) → l2.length ≤ maxLen → (∀ x ∈ l2, (fun y => (fun x => x.size ≤ maxLen) y.f0 ∧ (fun x => (Lit.int .i64 x).wf = true) y.f1) x) → ∃ k, cenotaphlaw09_CertMerges.f k l0 l1 l2 = some true
end Go.Proofs.Ytloeealbggobjaa.P
