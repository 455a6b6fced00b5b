import Derived.Test.YtkmhanpamdgnjaaOrd
import Derived.Test.YtkmhanpamdgnjaaSrt
/- Lists of names in strict order. No program in sight. -/
namespace Go.Proofs.Ytkmhanpamdgnjaa
open Go.Sort
def ltB (x y : ByteArray) : Prop := cmpB x y < 0
instance (x y : ByteArray) : Decidable (ltB x y) := by unfold ltB; infer_instance
theorem ltB_one {x y : ByteArray} : ltB x y ↔ Lib.compareBytes x.data.toList y.data.toList = -1 := by
  unfold ltB cmpB
  rcases cmp_range x.data.toList y.data.toList with h | h | h <;> omega
theorem cmpB_zero {x y : ByteArray} : cmpB x y = 0 ↔ x = y := by
  unfold cmpB
  constructor
  · intro h; exact bytes_ext (cmp_zero h)
  · intro h; subst h; exact cmp_self _
theorem cmpB_neg (x y : ByteArray) : cmpB y x = - cmpB x y := cmp_neg _ _
theorem toB : TO ltB where
  irrefl x := by unfold ltB; rw [cmpB_zero.mpr rfl]; decide
  trans x y z h1 h2 := by rw [ltB_one] at *; exact cmp_lt_trans h1 h2
  tri x y := by
    unfold ltB
    have e := cmpB_neg x y
    by_cases h : cmpB x y = 0
    · exact Or.inl (cmpB_zero.mp h)
    · by_cases h2 : cmpB x y < 0
      · exact Or.inr (Or.inl h2)
      · exact Or.inr (Or.inr (by omega))
theorem gtB {x y : ByteArray} : cmpB x y > 0 ↔ ltB y x := by
  unfold ltB; have := cmpB_neg x y; omega
theorem sortB_le (x y : ByteArray) : (!(ltOf cmpB) y x) = true ↔ ¬ ltB y x := by
  rw [Bool.not_eq_true', ltB_false]; unfold ltB cmpB; omega
theorem unionB_sorted (l : List ByteArray) : (unionB l).Pairwise ltB := (sort_compact toB _ sortB_le l).1
theorem mem_unionB (l : List ByteArray) (x : ByteArray) : x ∈ unionB l ↔ x ∈ l := (sort_compact toB _ sortB_le l).2 x
theorem getD_mem {α : Type} {l : List α} {i : Nat} (h : i < l.length) (d : α) : l.getD i d ∈ l := by
  simp [List.getD, List.getElem?_eq_getElem h]
theorem getD_eq {α : Type} {l : List α} {i : Nat} (h : i < l.length) (d : α) : l.getD i d = l[i] := by
  simp [List.getD, List.getElem?_eq_getElem h]
theorem mem_getD {α : Type} {l : List α} {x : α} (h : x ∈ l) (d : α) : ∃ i, i < l.length ∧ l.getD i d = x := by
  obtain ⟨i, hi, e⟩ := List.mem_iff_getElem.mp h
  exact ⟨i, hi, by rw [getD_eq hi]; exact e⟩
/-- A search among names in order finds what is there. -/
theorem bsB_mem (l : List ByteArray) (a : ByteArray) (hs : l.Pairwise ltB) : bsB (fun i => cmpB (l.getD i ByteArray.empty) a) l.length = true ↔ a ∈ l := by
  have hp : ∀ i j, i < j → j < l.length → ltB (l.getD i ByteArray.empty) (l.getD j ByteArray.empty) := by
    intro i j hij hj
    rw [getD_eq hj, getD_eq (show i < l.length by omega)]
    exact List.pairwise_iff_getElem.mp hs i j _ _ hij
  have := bsB_iff (fun i => cmpB (l.getD i ByteArray.empty) a) l.length (fun i j hij hj h => toB.trans _ _ _ (hp i j hij hj) h) (fun i j hij hj h => by
    have := hp i j hij hj; rw [cmpB_zero.mp h] at this; exact this)
  rw [this]
  constructor
  · rintro ⟨i, hi, h⟩; rw [← cmpB_zero.mp h]; exact getD_mem hi _
  · intro h; obtain ⟨i, hi, e⟩ := mem_getD h ByteArray.empty; exact ⟨i, hi, cmpB_zero.mpr e⟩
end Go.Proofs.Ytkmhanpamdgnjaa
