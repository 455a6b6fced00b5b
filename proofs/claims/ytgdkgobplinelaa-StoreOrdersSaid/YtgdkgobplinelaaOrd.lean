import Derived.Test.YtgdkgobplinelaaBase
import Derived.Shelf.SlSortCmp.NoneTotal
import Derived.Lib.SlicesCompact
/- The order of names as the library's sort wants it. No program in sight. -/
namespace Go.Proofs.Ytgdkgobplinelaa
open Go.Sort
theorem bytes_ext {x y : ByteArray} (h : x.data.toList = y.data.toList) : x = y := by
  apply ByteArray.ext; exact Array.toList_inj.mp h
end Go.Proofs.Ytgdkgobplinelaa
