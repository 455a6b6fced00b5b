-- Written by a program of this session (wip/pp.py over the kit's printer, with our own texts put in).
import Derived.Test.YtkmhanpamdgnjaaP10
namespace Go.Proofs.Ytkmhanpamdgnjaa.P
open Go.RowKit Go.Proofs.YtkmhanpamdgnjaaW.PrintWords
/-- What is to be shown of cenotaphlaw07.ItemRights: its row follows from it. -/
def cenotaphlaw07_ItemRights.Pure : Prop := ∀ (y0 : S46), (fun y => (fun x => (Lit.int .i64 x).wf = true) y.f0 ∧ ((fun y => (fun x => x.size ≤ maxLen) y.f0 ∧ ((fun x => (Lit.int .i64 x).wf = true) y.f1 ∧ (fun x => (Lit.int .i64 x).wf = true) y.f2)) y.f1 ∧ ((fun _ => True) y.f2 ∧ ((fun y => (fun x => (Lit.int .i64 x).wf = true) y.f0 ∧ (fun x => (Lit.int .i64 x).wf = true) y.f1) y.f3 ∧ ((fun x => x.size ≤ maxLen) y.f4 ∧ (fun _ => True) y.f5))))) y0 → ∃ k, cenotaphlaw07_ItemRights.f k y0.f0 y0.f1.f0 y0.f1.f1 y0.f1.f2 y0.f2 y0.f3.f0 y0.f3.f1 y0.f4 y0.f5 = some true
end Go.Proofs.Ytkmhanpamdgnjaa.P
