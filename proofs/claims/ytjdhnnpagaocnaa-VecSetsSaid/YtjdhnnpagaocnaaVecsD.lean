import Derived.Test.YtjdhnnpagaocnaaVecs1
import Derived.Test.YtjdhnnpagaocnaaP15
/- What the program's Vecs come to, in plain words: without one. -/
namespace Go.Proofs.Ytjdhnnpagaocnaa.Pure
open Go.RowKit Go.Proofs.Ytjdhnnpagaocnaa Go.Proofs.Ytjdhnnpagaocnaa.P Go.Proofs.YtjdhnnpagaocnaaW.PrintWords Go.Proofs.YtjdhnnpagaocnaaW.PrintLast
set_option linter.unusedVariables false
set_option linter.unusedSimpArgs false
theorem vec_drop (l : List SA) (hl : l.length < 1000000000) (a : ByteArray) : vec_Drop.f l a = some (dropM sA.id a l) := by
  unfold vec_Drop.f
  rw [if_pos hl]
  congr 1
  unfold dropM
  congr 1
  funext x
  show (!decide (x.f0 = a)) = decide (x.f0 ≠ a)
  by_cases h : x.f0 = a <;> simp [h]
end Go.Proofs.Ytjdhnnpagaocnaa.Pure
