-- Written by a program of this session (wip/pp.py over the kit's printer, with our own texts put in).
import Derived.Test.YtejoofeigeoboaaP12
namespace Go.Proofs.Ytejoofeigeoboaa.P
open Go.RowKit Go.Proofs.YtejoofeigeoboaaW.PrintWords
/-- What is to be shown of cenotaphlaw02.SpanGroups: its row follows from it. -/
def cenotaphlaw02_SpanGroups.Pure : Prop := ∀ (y0 : S30) (y1 : S30) (y2 : S30), (fun y => (fun x => (Lit.int .i64 x).wf = true) y.f0 ∧ (fun l => l.length ≤ maxLen ∧ ∀ x ∈ l, (fun x => (Lit.int .i64 x).wf = true) x) y.f1) y0 → (fun y => (fun x => (Lit.int .i64 x).wf = true) y.f0 ∧ (fun l => l.length ≤ maxLen ∧ ∀ x ∈ l, (fun x => (Lit.int .i64 x).wf = true) x) y.f1) y1 → (fun y => (fun x => (Lit.int .i64 x).wf = true) y.f0 ∧ (fun l => l.length ≤ maxLen ∧ ∀ x ∈ l, (fun x => (Lit.int .i64 x).wf = true) x) y.f1) y2 → ∃ k, cenotaphlaw02_SpanGroups.f k y0.f0 y0.f1 y1.f0 y1.f1 y2.f0 y2.f1 = some true
end Go.Proofs.Ytejoofeigeoboaa.P
