-- Written by a program of this session (wip/pp.py over the kit's printer, with our own texts put in).
import Derived.Test.YtgkcdmhndplejaaP8
namespace Go.Proofs.Ytgkcdmhndplejaa.P
open Go.RowKit Go.Proofs.YtgkcdmhndplejaaW.PrintWords
/-- What is to be shown of cenotaphlaw06.WireMosts: its row follows from it. -/
def cenotaphlaw06_WireMosts.Pure : Prop := ∀ (a0 : Int) (a1 : ByteArray) (a2 : Int), (Lit.int .i64 a0).wf = true → a1.size ≤ 140737488351232 → (Lit.int .i64 a2).wf = true → ∃ k, cenotaphlaw06_WireMosts.f k a0 a1 a2 = some true
end Go.Proofs.Ytgkcdmhndplejaa.P
