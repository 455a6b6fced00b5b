import Derived.Test.YtkmhanpamdgnjaaBase
import Derived.Shelf.SlSortCmp.NoneTotal
import Derived.Lib.SlicesCompact
/- The order of names as the library's sort wants it. No program in sight. -/
namespace Go.Proofs.Ytkmhanpamdgnjaa
open Go.Sort
theorem ltB_iff (x y : ByteArray) : ltOf cmpB x y = true ↔ Lib.compareBytes x.data.toList y.data.toList = -1 := by
  have e : ltOf cmpB x y = decide (Lib.compareBytes x.data.toList y.data.toList < 0) := rfl
  rw [e, decide_eq_true_eq]
  rcases cmp_range x.data.toList y.data.toList with h | h | h <;> omega
theorem ltB_false (x y : ByteArray) : ltOf cmpB x y = false ↔ 0 ≤ Lib.compareBytes x.data.toList y.data.toList := by
  rw [← Bool.not_eq_true, ltB_iff]
  rcases cmp_range x.data.toList y.data.toList with h | h | h <;> omega
theorem bytes_ext {x y : ByteArray} (h : x.data.toList = y.data.toList) : x = y := by
  apply ByteArray.ext; exact Array.toList_inj.mp h
theorem cmp_le_trans {a b c : List UInt8} (h1 : Lib.compareBytes a b ≤ 0) (h2 : Lib.compareBytes b c ≤ 0) : Lib.compareBytes a c ≤ 0 := by
  rcases cmp_range a b with e1 | e1 | e1
  · rcases cmp_range b c with e2 | e2 | e2
    · rw [cmp_lt_trans e1 e2]; decide
    · rw [← cmp_zero e2, e1]; decide
    · omega
  · rw [cmp_zero e1]; exact h2
  · omega
theorem swoB : SWO (ltOf cmpB) where
  irrefl x := by rw [ltB_false, cmp_self]; decide
  trans x y z h1 h2 := by rw [ltB_iff] at *; exact cmp_lt_trans h1 h2
  ntrans x y z h1 h2 := by
    rw [ltB_false] at *
    have e1 := cmp_neg x.data.toList y.data.toList
    have e2 := cmp_neg y.data.toList z.data.toList
    have e3 := cmp_neg x.data.toList z.data.toList
    have := @cmp_le_trans z.data.toList y.data.toList x.data.toList (by omega) (by omega)
    omega
theorem totB (x y : ByteArray) (h1 : ltOf cmpB x y = false) (h2 : ltOf cmpB y x = false) : x = y := by
  rw [ltB_false] at *
  have e1 := cmp_neg x.data.toList y.data.toList
  exact bytes_ext (cmp_zero (by omega))
/-- Names in order. -/
def sortB (l : List ByteArray) : List ByteArray := l.mergeSort fun x y => !(ltOf cmpB) y x
/-- All of both, each once, in order. -/
def unionB (l : List ByteArray) : List ByteArray := Lib.compactUpTo (sortB l).toArray (sortB l).toArray.size
end Go.Proofs.Ytkmhanpamdgnjaa
