import Derived.Test.YtgdkgobplinelaaOrd
import Derived.Test.YtgdkgobplinelaaSrt
/- Lists of names in strict order. No program in sight. -/
namespace Go.Proofs.Ytgdkgobplinelaa
open Go.Sort
def ltB (x y : ByteArray) : Prop := cmpB x y < 0
instance (x y : ByteArray) : Decidable (ltB x y) := by unfold ltB; infer_instance
theorem ltB_one {x y : ByteArray} : ltB x y ↔ Lib.compareBytes x.data.toList y.data.toList = -1 := by
  unfold ltB cmpB
  rcases cmp_range x.data.toList y.data.toList with h | h | h <;> omega
theorem cmpB_zero {x y : ByteArray} : cmpB x y = 0 ↔ x = y := by
  unfold cmpB
  constructor
  · intro h; exact bytes_ext (cmp_zero h)
  · intro h; subst h; exact cmp_self _
theorem cmpB_neg (x y : ByteArray) : cmpB y x = - cmpB x y := cmp_neg _ _
theorem toB : TO ltB where
  irrefl x := by unfold ltB; rw [cmpB_zero.mpr rfl]; decide
  trans x y z h1 h2 := by rw [ltB_one] at *; exact cmp_lt_trans h1 h2
  tri x y := by
    unfold ltB
    have e := cmpB_neg x y
    by_cases h : cmpB x y = 0
    · exact Or.inl (cmpB_zero.mp h)
    · by_cases h2 : cmpB x y < 0
      · exact Or.inr (Or.inl h2)
      · exact Or.inr (Or.inr (by omega))
theorem gtB {x y : ByteArray} : cmpB x y > 0 ↔ ltB y x := by
  unfold ltB; have := cmpB_neg x y; omega
theorem getD_eq {α : Type} {l : List α} {i : Nat} (h : i < l.length) (d : α) : l.getD i d = l[i] := by
  simp [List.getD, List.getElem?_eq_getElem h]
end Go.Proofs.Ytgdkgobplinelaa
