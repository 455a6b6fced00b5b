-- Written by a program of this session (wip/pp.py over the kit's printer, with our own texts put in).
import Derived.Test.YtbdoablehdpdoaaP2
namespace Go.Proofs.Ytbdoablehdpdoaa.P
open Go.RowKit Go.Proofs.YtbdoablehdpdoaaW.PrintWords
/-- What is to be shown of cenotaphlaw01.IdChilds: its row follows from it. -/
def cenotaphlaw01_IdChilds.Pure : Prop := ∀ (a0 : ByteArray) (a1 : ByteArray) (y2 : S22), a0.size ≤ 140737488351232 → a1.size ≤ 140737488351232 → (fun y => (fun x => (Lit.int .i64 x).wf = true) y.f0 ∧ (fun x => (Lit.int .i64 x).wf = true) y.f1) y2 → ∃ k, cenotaphlaw01_IdChilds.f k a0 a1 y2.f0 y2.f1 = some true
end Go.Proofs.Ytbdoablehdpdoaa.P
