-- Written by a program of this session (wip/pp.py over the kit's printer, with our own texts put in).
import Derived.Test.YtejoofeigeoboaaP7
namespace Go.Proofs.Ytejoofeigeoboaa.P
open Go.RowKit Go.Proofs.YtejoofeigeoboaaW.PrintWords
/-- What is to be shown of cenotaphlaw02.SpanAdds: its row follows from it. -/
def cenotaphlaw02_SpanAdds.Pure : Prop := ∀ (y0 : S30) (a1 : Int), (fun y => (fun x => (Lit.int .i64 x).wf = true) y.f0 ∧ (fun l => l.length ≤ maxLen ∧ ∀ x ∈ l, (fun x => (Lit.int .i64 x).wf = true) x) y.f1) y0 → (Lit.int .i64 a1).wf = true → ∃ k, cenotaphlaw02_SpanAdds.f k y0.f0 y0.f1 a1 = some true
end Go.Proofs.Ytejoofeigeoboaa.P
