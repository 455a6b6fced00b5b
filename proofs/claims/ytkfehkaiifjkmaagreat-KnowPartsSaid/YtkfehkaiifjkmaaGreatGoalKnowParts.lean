-- Written by a program of this session (wip/pp.py over the kit's printer, with our own texts put in).
import Derived.Test.YtkfehkaiifjkmaaGreatP12
namespace Go.Proofs.YtkfehkaiifjkmaaGreat.P
open Go.RowKit Go.Proofs.YtkfehkaiifjkmaaGreatW.PrintWords
/-- What is to be shown of cenotaphlaw04.KnowParts: its row follows from it. -/
def cenotaphlaw04_KnowParts.Pure : Prop := ∀ (l0 : List (S61)) (l1 : List ByteArray), l0.length ≤ maxLen → (∀ x ∈ l0, (fun y => (fun x => x.size ≤ maxLen) y.f0 ∧ (fun y => (fun x => (Lit.int .i64 x).wf = true) y.f0 ∧ (fun l => l.length ≤ maxLen ∧ ∀ x ∈ l, (fun x => (Lit.int .i64 x).wf = true) x) y.f1) y.f1) x) → l1.length ≤ maxLen → (∀ x ∈ l1, (fun x => x.size ≤ maxLen) x) → ∃ k, cenotaphlaw04_KnowParts.f k l0 l1 = some true
end Go.Proofs.YtkfehkaiifjkmaaGreat.P
