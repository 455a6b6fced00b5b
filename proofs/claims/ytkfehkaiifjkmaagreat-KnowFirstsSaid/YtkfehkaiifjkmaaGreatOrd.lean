import Derived.Test.YtkfehkaiifjkmaaGreatBase
import Derived.Shelf.SlSortCmp.NoneTotal
import Derived.Lib.SlicesCompact
namespace Go.Proofs.YtkfehkaiifjkmaaGreat
open Go.Sort
theorem ltB_iff (x y : ByteArray) : ltOf cmpB x y = true ↔ Lib.compareBytes x.data.toList y.data.toList = -1 := by
  have e : ltOf cmpB x y = decide (Lib.compareBytes x.data.toList y.data.toList < 0) := rfl
  rw [e, decide_eq_true_eq]
  rcases cmp_range x.data.toList y.data.toList with h | h | h <;> omega
theorem ltB_false (x y : ByteArray) : ltOf cmpB x y = false ↔ 0 ≤ Lib.compareBytes x.data.toList y.data.toList := by
  rw [← Bool.not_eq_true, ltB_iff]
  rcases cmp_range x.data.toList y.data.toList with h | h | h <;> omega
theorem bytes_ext {x y : ByteArray} (h : x.data.toList = y.data.toList) : x = y := by
  apply ByteArray.ext; exact Array.toList_inj.mp h
def sortB (l : List ByteArray) : List ByteArray := l.mergeSort fun x y => !(ltOf cmpB) y x
def unionB (l : List ByteArray) : List ByteArray := Lib.compactUpTo (sortB l).toArray (sortB l).toArray.size
end Go.Proofs.YtkfehkaiifjkmaaGreat
