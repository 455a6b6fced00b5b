import Derived.Test.YtgdkgobplinelaaWMore
import Derived.Sort.Grow
namespace Go.Proofs.Ytgdkgobplinelaa
open Go.RowKit Go.Sort Go.Proofs.YtgdkgobplinelaaW.PrintWords
set_option linter.unusedVariables false
section
variable {α : Type} {enc : α → Value} {h1 : ∀ x, (enc x).oneCell' = true} {e : TypeId} {w : World} {base : Nat} {ok : Nat → Prop} {v : Value} {xs : List α}
end
section
variable {α : Type} [Inhabited α] {enc : α → Value} {e : TypeId} {w : World}
theorem heap_put {g n : Nat} {os : Array Obj} {cur : Array Value} (d : Array α) (hb : w.heap[g]? = some (.cells cur e (0, 0))) :
    (grow (putRow enc (Sort.ahead w n) g 0 d) os).heap[g]? = some (.cells (putCells enc 0 d cur) e (0, 0)) := by
  have hg : g < w.heap.size := (Array.getElem?_eq_some_iff.1 hb).1
  rw [heap_grow_old _ _ (by simpa using hg)]
  simp [putRow, mapBlock, Sort.ahead, Array.getElem?_modify, hb, onCells]
theorem heap_put_other {g n k : Nat} {os : Array Obj} (d : Array α) (hk : k < w.heap.size) (hne : k ≠ g) : (grow (putRow enc (Sort.ahead w n) g 0 d) os).heap[k]? = w.heap[k]? := by
  rw [heap_grow_old _ _ (by simpa using hk)]
  have : g ≠ k := fun h => hne h.symm
  simp [putRow, mapBlock, Sort.ahead, Array.getElem?_modify, this]
theorem below_put {g n : Nat} {os : Array Obj} (d : Array α) {B : Nat} {w0 : World} (h : Below B w0 w) (hg : B ≤ g) (hB : B ≤ w.heap.size) : Below B w0 (grow (putRow enc (Sort.ahead w n) g 0 d) os) :=
  ⟨h.os, h.tape, h.output, Nat.le_trans h.size (by simp), fun k hk => (heap_put_other d (by omega) (by omega)).trans (h.block k hk)⟩
theorem put_take (cur : Array Value) (ys zs : List α) (h : ys.length ≤ cur.size) : (putCells enc 0 (ys ++ zs).toArray cur).toList.take ys.length = ys.map enc := by
  apply List.ext_getElem?
  intro j
  by_cases hj : j < ys.length
  · rw [List.getElem?_take_of_lt hj, Array.getElem?_toList]
    simp [putCells, hj, show j < cur.size by omega, show j < ys.length + zs.length by omega]
  · rw [List.getElem?_take_eq_none (by omega), List.getElem?_eq_none (by simp; omega)]
theorem put_size (cur : Array Value) (d : Array α) : (putCells enc 0 d cur).size = cur.size := by simp [putCells]
end
theorem heap_alloc_new (w : World) (o : Obj) {k : Nat} (h : k = w.heap.size) : (w.alloc o).heap[k]? = some o := by subst h; simp [World.alloc, -World.alloc_eq]
theorem size_alloc (w : World) (o : Obj) : (w.alloc o).heap.size = w.heap.size + 1 := by simp [World.alloc, -World.alloc_eq]
end Go.Proofs.Ytgdkgobplinelaa
