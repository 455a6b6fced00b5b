-- Written by a program of this session (wip/pp.py over the kit's printer, with our own texts put in).
import Derived.Test.YtgkcdmhndplejaaP5
namespace Go.Proofs.Ytgkcdmhndplejaa.P
open Go.RowKit Go.Proofs.YtgkcdmhndplejaaW.PrintWords
/-- What is to be shown of cenotaphlaw06.WireOnce: its row follows from it. -/
def cenotaphlaw06_WireOnce.Pure : Prop := ∀ (l0 : List Int), l0.length ≤ maxLen → (∀ x ∈ l0, (fun x => (Lit.int .u8 x).wf = true) x) → ∃ k, cenotaphlaw06_WireOnce.f k l0 = some true
end Go.Proofs.Ytgkcdmhndplejaa.P
