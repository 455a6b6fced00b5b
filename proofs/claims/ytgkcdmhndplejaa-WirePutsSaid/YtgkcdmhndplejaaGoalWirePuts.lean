-- Written by a program of this session (wip/pp.py over the kit's printer, with our own texts put in).
import Derived.Test.YtgkcdmhndplejaaP4
namespace Go.Proofs.Ytgkcdmhndplejaa.P
open Go.RowKit Go.Proofs.YtgkcdmhndplejaaW.PrintWords
/-- What is to be shown of cenotaphlaw06.WirePuts: its row follows from it. -/
def cenotaphlaw06_WirePuts.Pure : Prop := ∀ (l0 : List Int) (l1 : List ByteArray), l0.length ≤ maxLen → (∀ x ∈ l0, (fun x => (Lit.int .i64 x).wf = true) x) → l1.length ≤ maxLen → (∀ x ∈ l1, (fun x => x.size ≤ maxLen) x) → ∃ k, cenotaphlaw06_WirePuts.f k l0 l1 = some true
end Go.Proofs.Ytgkcdmhndplejaa.P
