import Derived.Test.YtgdkgobplinelaaMem
import Derived.Test.YtgdkgobplinelaaRow
import Derived.Test.YtgdkgobplinelaaSrt
import Derived.Shelf.SlSortCmp.InsertionK
namespace Go.Proofs.Ytgdkgobplinelaa
open Go.RowKit Go.Sort Go.Proofs Go.Proofs.YtgdkgobplinelaaW.PrintWords Go.Proofs.YtgdkgobplinelaaW.PrintWords.Kd
set_option linter.unusedVariables false
section
variable {α : Type} [Inhabited α] {enc : α → List Value} {k : Nat}
theorem flat_get (hk : ∀ x, (enc x).length = k) (d : Array α) (j i : Nat) (hj : j < d.size) (hi : i < k) : (flatK enc k d).toList[j * k + i]? = (enc d[j]!)[i]? := by
  have hlt : j * k + i < d.size * k := by
    have : (j + 1) * k ≤ d.size * k := Nat.mul_le_mul_right _ hj
    rw [Nat.succ_mul] at this; omega
  have h := get_flatK enc k d (j * k + i) hlt
  have h1 : (j * k + i) / k = j := by rw [Nat.mul_comm, Nat.mul_add_div (by omega), Nat.div_eq_of_lt hi, Nat.add_zero]
  have h2 : (j * k + i) % k = i := by rw [Nat.mul_comm, Nat.mul_add_mod, Nat.mod_eq_of_lt hi]
  rw [h1, h2] at h
  have e1 : (flatK enc k d).toList[j * k + i]? = some (flatK enc k d)[j * k + i]! := by
    rw [Array.getElem?_toList, Array.getElem?_eq_getElem (by rw [size_flatK]; exact hlt), getElem!_pos _ _ (by rw [size_flatK]; exact hlt)]
  have hi' : i < (enc d[j]!).length := by rw [hk]; exact hi
  rw [e1, h, List.getElem?_eq_getElem hi', getElem!_pos (enc d[j]!) i hi']
theorem flat_at (hk : ∀ x, (enc x).length = k) (d : Array α) (j : Nat) (hj : j < d.size) : ((flatK enc k d).toList.drop (j * k)).take k = enc d[j]! := by
  apply List.ext_getElem?
  intro i
  by_cases hi : i < k
  · rw [List.getElem?_take_of_lt hi, List.getElem?_drop, flat_get hk d j i hj hi]
  · rw [List.getElem?_eq_none (by rw [List.length_take]; omega), List.getElem?_eq_none (by rw [hk]; omega)]
theorem flat_eq (hk : ∀ x, (enc x).length = k) (hk0 : 0 < k) (xs : List α) (cs : List Value) (hl : cs.length = xs.length * k) (h : ∀ j p, xs[j]? = some p → (cs.drop (j * k)).take k = enc p) : cs = (flatK enc k xs.toArray).toList := by
  apply List.ext_getElem?
  intro t
  by_cases ht : t < xs.length * k
  · have hj : t / k < xs.length := (Nat.div_lt_iff_lt_mul hk0).mpr ht
    have hi : t % k < k := Nat.mod_lt _ hk0
    have ht2 : t = t / k * k + t % k := by rw [Nat.mul_comm, Nat.div_add_mod]
    have := h (t / k) xs[t / k] (List.getElem?_eq_getElem hj)
    have h3 : ((cs.drop (t / k * k)).take k)[t % k]? = (enc xs[t / k])[t % k]? := by rw [this]
    rw [List.getElem?_take_of_lt hi, List.getElem?_drop, ← ht2] at h3
    have h4 := flat_get hk xs.toArray (t / k) (t % k) (by simpa using hj) hi
    rw [← ht2] at h4
    rw [h3, h4]
    congr 2
    have hj' : t / k < xs.toArray.size := by simpa using hj
    rw [getElem!_pos xs.toArray (t / k) hj']; simp
  · rw [List.getElem?_eq_none (by omega), List.getElem?_eq_none (by rw [Array.length_toList, size_flatK]; simp; omega)]
variable {d : Kd α} {e : TypeId} {w w0 : World} {base : Nat} {ok : Nat → Prop} {v : Value} {xs : List α}
theorem R_sort (hsz : d.sz = k) (hk0 : 0 < k) (hk : ∀ x, (enc x).length = k) (hO : ∀ w b o x cs, d.M w b o x cs → cs = enc x) (hM : ∀ w b o x, d.M w b o x (enc x)) (h : d.R e w base ok v xs) (hne : xs ≠ []) (hB : Below base w0 w) (hbase : base ≤ w.heap.size) :
    ∃ g cap, v = .slice (some ⟨g, 0, none⟩) xs.toArray.size cap ∧ g < w.heap.size ∧ HoldsK enc k w g 0 xs.toArray ∧ ∀ (n : Nat) (dk : Array α) (os : Array Obj), dk.size = xs.length → d.R e (sortWorldK enc k w g 0 n dk os) base ok v dk.toList ∧ Below base w0 (sortWorldK enc k w g 0 n dk os) := by
  obtain ⟨g, cap, cur, rfl, hg, hok, hh, h2, h3, h4, h5⟩ := R_open h hne
  rw [hsz] at h4 h5
  have hcs := flat_eq hk hk0 xs _ h5.1 fun j p hp => hO _ _ _ _ _ (h5.2 j p hp)
  have hle : xs.length * k ≤ cur.size := by rw [h4]; exact Nat.mul_le_mul_right _ h2
  refine ⟨g, cap, by simp, (Array.getElem?_eq_some_iff.1 hh).1, ?_, ?_⟩
  · intro j hj
    rw [size_flatK] at hj
    have hj' : j < xs.length * k := by simpa using hj
    refine ⟨?_, blk_frozen hh _⟩
    rw [blk_cell hh, Nat.zero_add]
    have hq : (cur.toList.take (xs.length * k))[j]? = cur.toList[j]? := List.getElem?_take_of_lt hj'
    rw [hcs, Array.getElem?_toList, Array.getElem?_toList] at hq
    rw [← hq, Array.getElem?_eq_getElem (by rw [size_flatK]; exact hj), getElem!_pos _ _ (by rw [size_flatK]; exact hj)]; rfl
  · intro n dk os hdk
    have hfl : (flatK enc k dk).toList.length = xs.length * k := by rw [Array.length_toList, size_flatK, hdk]
    refine ⟨?_, below_put (enc := id) _ hB hg hbase⟩
    have hrow := R_close (d := d) (xs := dk.toList) (w := sortWorldK enc k w g 0 n dk os) (ok := ok) (e := e) (cap := cap) (cur := putCells id 0 (flatK enc k dk) cur) (inner := (flatK enc k dk).toList) hg hok (heap_put (enc := id) (flatK enc k dk) hh) (by rw [Array.length_toList, hdk]; exact h2) h3 (by rw [put_size, h4, hsz])
      (by
        have := put_take (enc := id) cur (flatK enc k dk).toList [] (by rw [hfl]; exact hle)
        rw [List.append_nil, List.map_id, Array.toArray_toList] at this
        rw [hsz, Array.length_toList, hdk, ← hfl]; exact this)
      ⟨by rw [hfl, hsz]; congr 1; simp [hdk], fun j p hp => by
        have hjs : j < dk.size := by
          have := List.getElem?_eq_some_iff.mp hp
          obtain ⟨a, _⟩ := this
          simpa using a
        rw [hsz, flat_at hk dk j hjs]
        have : dk[j]! = p := by
          rw [getElem!_pos dk j hjs]
          have := List.getElem?_eq_some_iff.mp hp
          obtain ⟨_, b⟩ := this
          simpa using b
        rw [this]; exact hM _ _ _ _⟩
    rw [Array.length_toList, hdk] at hrow
    exact hrow
end
end Go.Proofs.Ytgdkgobplinelaa
namespace Go.Proofs.Ytgdkgobplinelaa
open Go.RowKit Go.Sort Go.Proofs Go.Proofs.YtgdkgobplinelaaW.PrintWords
def Gr (w w' : World) : Prop := ∃ (q : Nat) (os : Array Obj), w' = grow (w.drewN q) os
theorem Gr.refl (w : World) : Gr w w := ⟨0, #[], by rw [grow_empty]; rfl⟩
theorem Gr.trans {a b c : World} (h : Gr a b) (h2 : Gr b c) : Gr a c := by
  obtain ⟨q, os, rfl⟩ := h
  obtain ⟨q2, os2, rfl⟩ := h2
  refine ⟨q + q2, os ++ os2, ?_⟩
  show grow (grow ((a.drewN q).drewN q2) os) os2 = _
  rw [grow_grow, World.drewN_drewN]
theorem Gr.alloc (w : World) (o : Obj) : Gr w (w.alloc o) := ⟨0, #[o], by rw [alloc_eq_grow]; rfl⟩
theorem Gr.drawn {w w' : World} (h : Drawn0 w w') : Gr w w' := by
  obtain ⟨⟨m, rfl⟩⟩ := h
  exact ⟨m, #[], by rw [grow_empty]⟩
theorem Gr.below {w w' : World} (h : Gr w w') : Below w.heap.size w w' := by
  obtain ⟨q, os, rfl⟩ := h
  exact ⟨rfl, rfl, rfl, by simp, fun k hk => heap_grow_old (w.drewN q) os hk⟩
theorem Gr.two (w : World) (o o' : Obj) : Gr w ((w.alloc o).alloc o') := (Gr.alloc w o).trans (Gr.alloc _ o')
end Go.Proofs.Ytgdkgobplinelaa
namespace Go.Proofs.Ytgdkgobplinelaa
open Go.Sort
section
variable {α : Type}
def isort (gt : α → α → Bool) (l : List α) : List α := l.foldl (fun s x => sink gt x s) []
theorem fold_perm (gt : α → α → Bool) : ∀ (rest S : List α), (rest.foldl (fun s x => sink gt x s) S).Perm (S ++ rest)
  | [], S => by simp
  | x :: rest, S => by
    rw [List.foldl_cons]
    refine (fold_perm gt rest _).trans ?_
    refine ((sink_perm gt x S).append_right rest).trans ?_
    exact List.perm_middle.symm
theorem isort_perm (gt : α → α → Bool) (l : List α) : (isort gt l).Perm l := fold_perm gt l []
theorem sinkR_app (gt : α → α → Bool) (v : α) : ∀ p q r, sinkR gt v p (q ++ r) = sinkR gt v p q ++ r
  | [], q, r => rfl
  | u :: p, q, r => by
    rw [sinkR, sinkR]
    split
    · rw [← List.cons_append, sinkR_app gt v p (u :: q) r]
    · simp
variable [Inhabited α]
theorem inner_sink (lt : α → α → Bool) (x : α) : ∀ (p q : List α), insInner lt 0 p.length (p.reverse ++ x :: q).toArray = (sinkR (fun u v => lt v u) x p q).toArray
  | [], q => rfl
  | u :: p, q => by
    have hL : ((u :: p).reverse ++ x :: q) = p.reverse ++ u :: x :: q := by simp
    have hlen : (p.reverse ++ u :: x :: q).length = p.length + q.length + 2 := by simp; omega
    have h0 : (p.reverse ++ u :: x :: q).toArray[p.length]! = u := by
      rw [getElem!_pos _ p.length (by simp)]
      simp [List.getElem_append_right]
    have h1 : (p.reverse ++ u :: x :: q).toArray[p.length + 1]! = x := by
      rw [getElem!_pos _ (p.length + 1) (by simp)]
      simp [List.getElem_append_right]
    rw [hL, List.length_cons, insInner, h0, h1, sinkR]
    have hd : (decide (p.length + 1 > 0) && lt x u) = lt x u := by simp
    rw [hd]
    by_cases hc : lt x u = true
    · rw [if_pos hc, if_pos hc]
      have hsw : swp (p.reverse ++ u :: x :: q).toArray (p.length + 1) p.length = (p.reverse ++ x :: u :: q).toArray := by
        unfold swp
        rw [h0, h1]
        simp [List.set_append_right]
      rw [hsw]
      exact inner_sink lt x p (u :: q)
    · rw [if_neg hc, if_neg hc]
      simp
theorem outer_sort (lt : α → α → Bool) : ∀ (rest S : List α), insOuter lt 0 (S.length + rest.length) S.length (S ++ rest).toArray = (rest.foldl (fun s x => sink (fun u v => lt v u) x s) S).toArray
  | [], S => by rw [insOuter, if_neg (by simp)]; simp
  | x :: rest, S => by
    rw [insOuter, if_pos (by simp)]
    have h := inner_sink lt x S.reverse rest
    rw [List.reverse_reverse, List.length_reverse] at h
    rw [h]
    have h2 := sinkR_app (fun u v => lt v u) x S.reverse [] rest
    rw [List.nil_append] at h2
    rw [h2, List.foldl_cons]
    have h3 := outer_sort lt rest (sink (fun u v => lt v u) x S)
    rw [sink_length] at h3
    have e1 : S.length + (x :: rest).length = S.length + 1 + rest.length := by simp; omega
    rw [e1]
    exact h3
theorem ins_sort (lt : α → α → Bool) (l : List α) : insertionSort lt l.toArray 0 l.length = (isort (fun u v => lt v u) l).toArray := by
  cases l with
  | nil => rw [insertionSort, insOuter, if_neg (by simp)]; rfl
  | cons x t =>
    rw [insertionSort]
    have := outer_sort lt t [x]
    rw [List.length_singleton, Nat.add_comm 1] at this
    exact this
end
end Go.Proofs.Ytgdkgobplinelaa
