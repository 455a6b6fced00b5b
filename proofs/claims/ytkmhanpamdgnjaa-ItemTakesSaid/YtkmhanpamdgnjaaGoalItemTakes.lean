-- Written by a program of this session (wip/pp.py over the kit's printer, with our own texts put in).
import Derived.Test.YtkmhanpamdgnjaaP7
namespace Go.Proofs.Ytkmhanpamdgnjaa.P
open Go.RowKit Go.Proofs.YtkmhanpamdgnjaaW.PrintWords
/-- What is to be shown of cenotaphlaw07.ItemTakes: its row follows from it. -/
def cenotaphlaw07_ItemTakes.Pure : Prop := ∀ (l0 : List Int), l0.length ≤ maxLen → (∀ x ∈ l0, (fun x => (Lit.int .u8 x).wf = true) x) → ∃ k, cenotaphlaw07_ItemTakes.f k l0 = some true
end Go.Proofs.Ytkmhanpamdgnjaa.P
