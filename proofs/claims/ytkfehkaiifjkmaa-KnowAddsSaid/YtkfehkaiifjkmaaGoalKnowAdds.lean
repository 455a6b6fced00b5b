-- Written by a program of this session (wip/pp.py over the kit's printer, with our own texts put in).
import Derived.Test.YtkfehkaiifjkmaaP11
namespace Go.Proofs.Ytkfehkaiifjkmaa.P
open Go.RowKit Go.Proofs.YtkfehkaiifjkmaaW.PrintWords
/-- What is to be shown of cenotaphlaw04.KnowAdds: its row follows from it. -/
def cenotaphlaw04_KnowAdds.Pure : Prop := ∀ (l0 : List (S27)) (a1 : ByteArray) (a2 : Int), l0.length ≤ maxLen → (∀ x ∈ l0, (fun y => (fun x => x.size ≤ maxLen) y.f0 ∧ (fun y => (fun x => (Lit.int .i64 x).wf = true) y.f0 ∧ (fun l => l.length ≤ maxLen ∧ ∀ x ∈ l, (fun x => (Lit.int .i64 x).wf = true) x) y.f1) y.f1) x) → a1.size ≤ 140737488351232 → (Lit.int .i64 a2).wf = true → ∃ k, cenotaphlaw04_KnowAdds.f k l0 a1 a2 = some true
end Go.Proofs.Ytkfehkaiifjkmaa.P
