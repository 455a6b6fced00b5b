-- Written by a program of this session (wip/pp.py over the kit's printer, with our own texts put in).
import Derived.Test.YtbdoablehdpdoaaP7
namespace Go.Proofs.Ytbdoablehdpdoaa.P
open Go.RowKit Go.Proofs.YtbdoablehdpdoaaW.PrintWords
/-- What is to be shown of cenotaphlaw01.IdLists: its row follows from it. -/
def cenotaphlaw01_IdLists.Pure : Prop := ∀ (l0 : List ByteArray) (l1 : List ByteArray) (a2 : ByteArray), l0.length ≤ maxLen → (∀ x ∈ l0, (fun x => x.size ≤ maxLen) x) → l1.length ≤ maxLen → (∀ x ∈ l1, (fun x => x.size ≤ maxLen) x) → a2.size ≤ 140737488351232 → ∃ k, cenotaphlaw01_IdLists.f k l0 l1 a2 = some true
end Go.Proofs.Ytbdoablehdpdoaa.P
