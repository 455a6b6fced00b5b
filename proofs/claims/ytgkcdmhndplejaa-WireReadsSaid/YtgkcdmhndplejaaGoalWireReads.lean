-- Written by a program of this session (wip/pp.py over the kit's printer, with our own texts put in).
import Derived.Test.YtgkcdmhndplejaaP3
namespace Go.Proofs.Ytgkcdmhndplejaa.P
open Go.RowKit Go.Proofs.YtgkcdmhndplejaaW.PrintWords
/-- What is to be shown of cenotaphlaw06.WireReads: its row follows from it. -/
def cenotaphlaw06_WireReads.Pure : Prop := ∀ (l0 : List Int) (l1 : List (S31)), l0.length ≤ maxLen → (∀ x ∈ l0, (fun x => (Lit.int .u8 x).wf = true) x) → l1.length ≤ maxLen → (∀ x ∈ l1, (fun y => (fun _ => True) y.f0 ∧ (fun x => (Lit.int .i64 x).wf = true) y.f1) x) → ∃ k, cenotaphlaw06_WireReads.f k l0 l1 = some true
end Go.Proofs.Ytgkcdmhndplejaa.P
