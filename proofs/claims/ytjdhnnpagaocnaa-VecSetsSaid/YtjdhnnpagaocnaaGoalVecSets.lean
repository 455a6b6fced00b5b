-- Written by a program of this session (wip/pp.py over the kit's printer, with our own texts put in).
import Derived.Test.YtjdhnnpagaocnaaP15
namespace Go.Proofs.Ytjdhnnpagaocnaa.P
open Go.RowKit Go.Proofs.YtjdhnnpagaocnaaW.PrintWords
/-- What is to be shown of cenotaphlaw03.VecSets: its row follows from it. -/
def cenotaphlaw03_VecSets.Pure : Prop := ∀ (l0 : List (S33)) (a1 : ByteArray) (a2 : Int), l0.length ≤ maxLen → (∀ x ∈ l0, (fun y => (fun x => x.size ≤ maxLen) y.f0 ∧ (fun x => (Lit.int .i64 x).wf = true) y.f1) x) → a1.size ≤ 140737488351232 → (Lit.int .i64 a2).wf = true → ∃ k, cenotaphlaw03_VecSets.f k l0 a1 a2 = some true
end Go.Proofs.Ytjdhnnpagaocnaa.P
