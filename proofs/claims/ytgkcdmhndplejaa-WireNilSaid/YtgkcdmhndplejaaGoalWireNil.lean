-- Written by a program of this session (wip/pp.py over the kit's printer, with our own texts put in).
import Derived.Test.YtgkcdmhndplejaaP7
namespace Go.Proofs.Ytgkcdmhndplejaa.P
open Go.RowKit Go.Proofs.YtgkcdmhndplejaaW.PrintWords
/-- What is to be shown of cenotaphlaw06.WireNil: its row follows from it. -/
def cenotaphlaw06_WireNil.Pure : Prop := ∀ (a0 : Int), (Lit.int .i64 a0).wf = true → cenotaphlaw06_WireNil.f a0 = some true
end Go.Proofs.Ytgkcdmhndplejaa.P
