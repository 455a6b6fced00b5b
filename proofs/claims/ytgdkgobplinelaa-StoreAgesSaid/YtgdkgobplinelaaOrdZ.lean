import Derived.Test.YtgdkgobplinelaaSrt
namespace Go.Proofs.Ytgdkgobplinelaa
def sortZ (l : List Int) : List Int := l.mergeSort fun x y => decide (x ≤ y)
def unionZ (l : List Int) : List Int := Lib.compactUpTo (sortZ l).toArray (sortZ l).toArray.size
theorem toZ : TO (fun x y : Int => x < y) where
  irrefl x := by omega
  trans x y z h1 h2 := by omega
  tri x y := by omega
theorem unionZ_sorted (l : List Int) : (unionZ l).Pairwise (fun x y : Int => x < y) := (sort_compact toZ _ (fun x y => by rw [decide_eq_true_eq]; omega) l).1
theorem mem_unionZ (l : List Int) (x : Int) : x ∈ unionZ l ↔ x ∈ l := (sort_compact toZ _ (fun x y => by rw [decide_eq_true_eq]; omega) l).2 x
theorem unionZ_length (l : List Int) : (unionZ l).length ≤ l.length := by
  unfold unionZ Lib.compactUpTo
  rw [List.length_map]
  refine Nat.le_trans (List.length_filter_le _ _) ?_
  simp [sortZ]
end Go.Proofs.Ytgdkgobplinelaa
