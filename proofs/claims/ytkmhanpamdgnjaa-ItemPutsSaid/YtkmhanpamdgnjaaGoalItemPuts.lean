-- Written by a program of this session (wip/pp.py over the kit's printer, with our own texts put in).
import Derived.Test.YtkmhanpamdgnjaaP12
namespace Go.Proofs.Ytkmhanpamdgnjaa.P
open Go.RowKit Go.Proofs.YtkmhanpamdgnjaaW.PrintWords
/-- What is to be shown of cenotaphlaw07.ItemPuts: its row follows from it. -/
def cenotaphlaw07_ItemPuts.Pure : Prop := ∀ (l0 : List (S46)), l0.length ≤ maxLen → (∀ x ∈ l0, (fun y => (fun x => (Lit.int .i64 x).wf = true) y.f0 ∧ ((fun y => (fun x => x.size ≤ maxLen) y.f0 ∧ ((fun x => (Lit.int .i64 x).wf = true) y.f1 ∧ (fun x => (Lit.int .i64 x).wf = true) y.f2)) y.f1 ∧ ((fun _ => True) y.f2 ∧ ((fun y => (fun x => (Lit.int .i64 x).wf = true) y.f0 ∧ (fun x => (Lit.int .i64 x).wf = true) y.f1) y.f3 ∧ ((fun x => x.size ≤ maxLen) y.f4 ∧ (fun _ => True) y.f5))))) x) → ∃ k, cenotaphlaw07_ItemPuts.f k l0 = some true
end Go.Proofs.Ytkmhanpamdgnjaa.P
