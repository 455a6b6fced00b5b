-- Written by a program of this session (wip/pp.py over the kit's printer, with our own texts put in).
import Derived.Test.YtkmhanpamdgnjaaP6
namespace Go.Proofs.Ytkmhanpamdgnjaa.P
open Go.RowKit Go.Proofs.YtkmhanpamdgnjaaW.PrintWords
/-- What is to be shown of cenotaphlaw07.ItemNewer: its row follows from it. -/
def cenotaphlaw07_ItemNewer.Pure : Prop := ∀ (y0 : S23) (y1 : S23) (y2 : S23), (fun y => (fun x => x.size ≤ maxLen) y.f0 ∧ ((fun x => (Lit.int .i64 x).wf = true) y.f1 ∧ (fun x => (Lit.int .i64 x).wf = true) y.f2)) y0 → (fun y => (fun x => x.size ≤ maxLen) y.f0 ∧ ((fun x => (Lit.int .i64 x).wf = true) y.f1 ∧ (fun x => (Lit.int .i64 x).wf = true) y.f2)) y1 → (fun y => (fun x => x.size ≤ maxLen) y.f0 ∧ ((fun x => (Lit.int .i64 x).wf = true) y.f1 ∧ (fun x => (Lit.int .i64 x).wf = true) y.f2)) y2 → ∃ k, cenotaphlaw07_ItemNewer.f k y0.f0 y0.f1 y0.f2 y1.f0 y1.f1 y1.f2 y2.f0 y2.f1 y2.f2 = some true
end Go.Proofs.Ytkmhanpamdgnjaa.P
