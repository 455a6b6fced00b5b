-- Written by a program of this session (wip/pp.py over the kit's printer, with our own texts put in).
import Derived.Test.YtloeealbggobjaaP11
namespace Go.Proofs.Ytloeealbggobjaa.P
open Go.RowKit Go.Proofs.YtloeealbggobjaaW.PrintWords
/-- What is to be shown of cenotaphlaw09.CertPuts: its row follows from it. -/
def cenotaphlaw09_CertPuts.Pure : Prop := ∀ (l0 : List (S56)) (a1 : ByteArray) (a2 : Int), l0.length ≤ maxLen → (∀ x ∈ l0, (fun y => (fun x => x.size ≤ maxLen) y.f0 ∧ (fun x => (Lit.int .i64 x).wf = true) y.f1) x) → a1.size ≤ 140737488351232 → (Lit.int .i64 a2).wf = true → ∃ k, cenotaphlaw09_CertPuts.f k l0 a1 a2 = some true
end Go.Proofs.Ytloeealbggobjaa.P
