import Derived.Test.YtkfehkaiifjkmaaGreatWMore
import Derived.Sort.Grow
namespace Go.Proofs.YtkfehkaiifjkmaaGreat
open Go.RowKit Go.Sort Go.Proofs.YtkfehkaiifjkmaaGreatW.PrintWords
set_option linter.unusedVariables false
section
variable {α : Type} {enc : α → Value} {h1 : ∀ x, (enc x).oneCell' = true} {e : TypeId} {w : World} {base : Nat} {ok : Nat → Prop} {v : Value} {xs : List α}
theorem reps_scalar {xs : List α} {cs : List Value} {wx : World} {b : Nat} {o : Nat → Prop} (h : Reps ((Kd.scalar enc h1).M wx b o) (Kd.scalar enc h1).sz xs cs) : cs = xs.map enc := by
  obtain ⟨hl, hx⟩ := h
  have hl' : cs.length = xs.length := by rw [hl]; exact Nat.mul_one _
  apply List.ext_getElem?
  intro j
  by_cases hj : j < xs.length
  · have h2 := hx j xs[j] (List.getElem?_eq_getElem hj)
    have h3 : (cs.drop (j * 1)).take 1 = [enc xs[j]] := h2
    have h4 : ((cs.drop (j * 1)).take 1)[0]? = some (enc xs[j]) := by rw [h3]; rfl
    rw [List.getElem?_take_of_lt (by omega), List.getElem?_drop, Nat.mul_one, Nat.add_zero] at h4
    rw [h4, List.getElem?_map, List.getElem?_eq_getElem hj]; rfl
  · rw [List.getElem?_eq_none (by omega), List.getElem?_eq_none (by simp; omega)]
theorem reps_scalar_mk (xs : List α) {wx : World} {b : Nat} {o : Nat → Prop} : Reps ((Kd.scalar enc h1).M wx b o) (Kd.scalar enc h1).sz xs (xs.map enc) := by
  refine ⟨by rw [List.length_map]; exact (Nat.mul_one _).symm, fun j p hj => ?_⟩
  show ((xs.map enc).drop (j * 1)).take 1 = [enc p]
  have hl := (List.getElem?_eq_some_iff.1 hj).1
  have he := (List.getElem?_eq_some_iff.1 hj).2
  rw [Nat.mul_one, List.drop_eq_getElem_cons (by simpa using hl)]
  simp [he]
theorem R_scalar_open (h : (Kd.scalar enc h1).R e w base ok v xs) (hne : xs ≠ []) :
    ∃ g cap cur, v = .slice (some ⟨g, 0, none⟩) xs.length cap ∧ base ≤ g ∧ ok g ∧ w.heap[g]? = some (.cells cur e (0, 0)) ∧ xs.length ≤ cap ∧ cap ≤ maxLen ∧ cur.size = cap ∧ cur.toList.take xs.length = xs.map enc := by
  obtain ⟨hok, inner, ⟨_, hr⟩, hp⟩ := h
  rcases hr with ⟨_, h0⟩ | ⟨g, cap, cur, rfl, hg, hh, h2, h3, h4, h5⟩
  · exact absurd (List.eq_nil_of_length_eq_zero h0) hne
  · have hs : (Kd.scalar enc h1).sz = 1 := rfl
    rw [hs, Nat.mul_one] at h4 h5
    exact ⟨g, cap, cur, rfl, hg, hok g rfl, hh, h2, h3, h4, by rw [h5, reps_scalar hp]⟩
theorem R_scalar_mk {g cap : Nat} {cur : Array Value} (hg : base ≤ g) (hk : ok g) (hh : w.heap[g]? = some (.cells cur e (0, 0))) (h2 : xs.length ≤ cap) (h3 : cap ≤ maxLen) (h4 : cur.size = cap) (h5 : cur.toList.take xs.length = xs.map enc) :
    (Kd.scalar enc h1).R e w base ok (.slice (some ⟨g, 0, none⟩) xs.length cap) xs := by
  have hs : (Kd.scalar enc h1).sz = 1 := rfl
  refine ⟨fun k e1 => ?_, xs.map enc, ⟨by rw [hs, List.length_map, Nat.mul_one], .inr ⟨g, cap, cur, rfl, hg, hh, h2, h3, by rw [hs, h4, Nat.mul_one], by rw [hs, Nat.mul_one]; exact h5⟩⟩, reps_scalar_mk xs⟩
  have : g = k := by simpa [Value.ownBlock] using e1
  exact this ▸ hk
end
section
variable {α : Type} [Inhabited α] {enc : α → Value} {e : TypeId} {w : World}
theorem holds_of_cells {g : Nat} {cur : Array Value} {xs : List α} (hb : w.heap[g]? = some (.cells cur e (0, 0))) (ht : cur.toList.take xs.length = xs.map enc) : Holds enc w g 0 xs.toArray := by
  intro j hj
  have hj' : j < xs.length := by simpa using hj
  refine ⟨?_, by simp [World.frozen?, hb]⟩
  have h1 : (cur.toList.take xs.length)[j]? = (xs.map enc)[j]? := by rw [ht]
  rw [List.getElem?_take_of_lt hj'] at h1
  simp only [World.cell?, hb, Nat.zero_add]
  simp only [Option.isSome_none, Bool.false_eq_true, if_false]
  rw [← Array.getElem?_toList, h1]
  simp [hj']
theorem heap_put {g n : Nat} {os : Array Obj} {cur : Array Value} (d : Array α) (hb : w.heap[g]? = some (.cells cur e (0, 0))) :
    (grow (putRow enc (Sort.ahead w n) g 0 d) os).heap[g]? = some (.cells (putCells enc 0 d cur) e (0, 0)) := by
  have hg : g < w.heap.size := (Array.getElem?_eq_some_iff.1 hb).1
  rw [heap_grow_old _ _ (by simpa using hg)]
  simp [putRow, mapBlock, Sort.ahead, Array.getElem?_modify, hb, onCells]
theorem heap_put_other {g n k : Nat} {os : Array Obj} (d : Array α) (hk : k < w.heap.size) (hne : k ≠ g) : (grow (putRow enc (Sort.ahead w n) g 0 d) os).heap[k]? = w.heap[k]? := by
  rw [heap_grow_old _ _ (by simpa using hk)]
  have : g ≠ k := fun h => hne h.symm
  simp [putRow, mapBlock, Sort.ahead, Array.getElem?_modify, this]
theorem below_put {g n : Nat} {os : Array Obj} (d : Array α) {B : Nat} {w0 : World} (h : Below B w0 w) (hg : B ≤ g) (hB : B ≤ w.heap.size) : Below B w0 (grow (putRow enc (Sort.ahead w n) g 0 d) os) :=
  ⟨h.os, h.tape, h.output, Nat.le_trans h.size (by simp), fun k hk => (heap_put_other d (by omega) (by omega)).trans (h.block k hk)⟩
theorem put_take (cur : Array Value) (ys zs : List α) (h : ys.length ≤ cur.size) : (putCells enc 0 (ys ++ zs).toArray cur).toList.take ys.length = ys.map enc := by
  apply List.ext_getElem?
  intro j
  by_cases hj : j < ys.length
  · rw [List.getElem?_take_of_lt hj, Array.getElem?_toList]
    simp [putCells, hj, show j < cur.size by omega, show j < ys.length + zs.length by omega]
  · rw [List.getElem?_take_eq_none (by omega), List.getElem?_eq_none (by simp; omega)]
theorem put_size (cur : Array Value) (d : Array α) : (putCells enc 0 d cur).size = cur.size := by simp [putCells]
end
theorem heap_alloc_new (w : World) (o : Obj) {k : Nat} (h : k = w.heap.size) : (w.alloc o).heap[k]? = some o := by subst h; simp [World.alloc, -World.alloc_eq]
theorem heap_alloc_old (w : World) (o : Obj) {k : Nat} (h : k < w.heap.size) : (w.alloc o).heap[k]? = w.heap[k]? := by
  simp only [World.alloc]
  rw [Array.getElem?_push, if_neg (by omega)]
theorem size_alloc (w : World) (o : Obj) : (w.alloc o).heap.size = w.heap.size + 1 := by simp [World.alloc, -World.alloc_eq]
end Go.Proofs.YtkfehkaiifjkmaaGreat
