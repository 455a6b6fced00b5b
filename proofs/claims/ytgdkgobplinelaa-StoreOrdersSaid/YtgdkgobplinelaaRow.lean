import Derived.Test.YtgdkgobplinelaaWMore
import Derived.Laws.IdiomCopy
import Derived.Lib.SliceRun
/- A row of the call's own, opened and shut: cells of k side by side; copy and clear at elements of k cells; an element put between. No program in sight. -/
namespace Go.Proofs.Ytgdkgobplinelaa
open Go.RowKit Go.Proofs.YtgdkgobplinelaaW.PrintWords Go.Proofs.YtgdkgobplinelaaW.PrintWords.Kd
set_option linter.unusedVariables false
theorem below_size' {b : Nat} {w W : World} (h : Below b w W) (hb : b ≤ w.heap.size) : b ≤ W.heap.size := Nat.le_trans hb h.size
section
variable {P : Program}
theorem run_copy_k (w : World) (dT sT ty elem : TypeId) (k b o dLen dCap : Nat) (a : Addr) (sLen sCap : Nat) (cs : List Value)
    (hu : P.underlying dT = some (.slice elem)) (hs : (P.info? elem).map (·.size) = some k) (hn : cs.length = Nat.min sLen dLen * k)
    (hsrc : ∀ j v, cs[j]? = some v → w.cell? (a.add j) = some v) (hc : ∀ j, j < cs.length → (w.cell? ⟨b, o + j, none⟩).isSome = true) (hf : ∀ j, j < cs.length → w.frozen? ⟨b, o + j, none⟩ = false) (h1 : ∀ v ∈ cs, v.oneCell' = true) :
    (Builtin.copy_ #[dT, sT] ty #[.slice (some ⟨b, o, none⟩) dLen dCap, .slice (some a) sLen sCap]).run P w = .ok (goInt (Nat.min sLen dLen)) (w.setCells b o cs) := by
  have hl := run_loadCells_list (P := P) w a cs hsrc
  have hst := run_storeCells_cells (P := P) b o cs 0 w (by simpa using hc) (by simpa using hf) h1
  cases hq : P.info? elem with
  | none => simp [hq] at hs
  | some i =>
    have hi : i.size = k := by simpa [hq] using hs
    simp [Builtin.copy_, run_underlying hu, Builtin.lenOf, Builtin.firstCells, sizeOf, typeInfo, hq, hi, ← hn, hl, hst]
theorem zeroCells_list (zc : List Value) (hz : 0 < zc.length) (n : Nat) : (Builtin.zeroCells zc.toArray n).toList = (List.replicate n zc).flatten := by
  apply List.ext_getElem
  · simp [Builtin.zeroCells]
  · intro i h1 h2
    have hi : i < n * zc.length := by simpa [Builtin.zeroCells, Nat.mul_comm] using h1
    have key : ∀ (n i : Nat) (hi : i < n * zc.length) (h2 : i < ((List.replicate n zc).flatten).length), ((List.replicate n zc).flatten)[i] = zc[i % zc.length]'(Nat.mod_lt _ hz) := by
      intro n
      induction n with
      | zero => intro i hi; omega
      | succ n ih =>
        intro i hi h2
        simp only [List.replicate_succ, List.flatten_cons]
        by_cases hlt : i < zc.length
        · rw [List.getElem_append_left hlt]
          congr 1
          exact (Nat.mod_eq_of_lt hlt).symm
        · rw [List.getElem_append_right (by omega)]
          rw [ih (i - zc.length) (by rw [Nat.succ_mul] at hi; omega)]
          congr 1
          rw [← Nat.mod_eq_sub_mod (by omega)]
    rw [key n i hi]
    simp [Builtin.zeroCells, Nat.mod_lt _ hz]
theorem run_clear_k (w : World) (t e ty : TypeId) (z : Value) (zc : List Value) (ht : P.underlying t = some (.slice e)) (hv : ∀ w, (zeroValue e).run P w = .ok z w) (hz : z.cells = zc.toArray) (hz0 : 0 < zc.length) (h1 : ∀ v ∈ zc, v.oneCell' = true) (b o n c : Nat) (hn : 0 < n)
    (hc : ∀ j, j < n * zc.length → (w.cell? ⟨b, o + j, none⟩).isSome = true) (hf : ∀ j, j < n * zc.length → w.frozen? ⟨b, o + j, none⟩ = false) :
    (Builtin.clear_ #[t] ty #[.slice (some ⟨b, o, none⟩) n c]).run P w = .ok (.tuple #[]) (w.setCells b o (List.replicate n zc).flatten) := by
  have hzc : (Builtin.zeroCells z.cells n).toList = (List.replicate n zc).flatten := by rw [hz]; exact zeroCells_list zc hz0 n
  have hlen : ((List.replicate n zc).flatten).length = n * zc.length := by simp
  have hst := run_storeCells_cells (P := P) b o (List.replicate n zc).flatten 0 w (by rw [hlen]; simpa using hc) (by rw [hlen]; simpa using hf) (by
    intro v hv'
    rw [List.mem_flatten] at hv'
    obtain ⟨l, hl, hv2⟩ := hv'
    rw [List.eq_of_mem_replicate hl] at hv2
    exact h1 v hv2)
  simp only [Nat.add_zero] at hst
  obtain ⟨m, rfl⟩ : ∃ m, n = m + 1 := ⟨n - 1, by omega⟩
  simp [Builtin.clear_, run_underlying ht, hv, hzc, hst]
end
section
variable {α : Type} {d : Kd α} {e : Nat} {w W : World} {base : Nat} {ok okp : Nat → Prop} {v : Value} {xs : List α}
theorem R_open (h : d.R e w base ok v xs) (hne : xs ≠ []) : ∃ g cap cur, v = .slice (some ⟨g, 0, none⟩) xs.length cap ∧ base ≤ g ∧ ok g ∧ w.heap[g]? = some (.cells cur e (0, 0)) ∧ xs.length ≤ cap ∧ cap ≤ maxLen ∧ cur.size = cap * d.sz ∧ Reps (d.M w base (fun k => ok k ∧ k ≠ g)) d.sz xs (cur.toList.take (xs.length * d.sz)) := by
  obtain ⟨hok, inner, ⟨_, hr⟩, hp⟩ := h
  rcases hr with ⟨_, h0⟩ | ⟨g, cap, cur, rfl, hg, hh, h2, h3, h4, h5⟩
  · exact absurd (List.eq_nil_of_length_eq_zero h0) hne
  · refine ⟨g, cap, cur, rfl, hg, hok g rfl, hh, h2, h3, h4, ?_⟩
    rw [h5]
    exact hp.imp_ fun _ _ hq => d.M_mono (fun k hk => ⟨hk.1, fun e => hk.2 (by rw [e]; rfl)⟩) hq
theorem R_close {g cap : Nat} {cur : Array Value} {inner : List Value} (hg : base ≤ g) (hk : ok g) (hh : w.heap[g]? = some (.cells cur e (0, 0))) (h2 : xs.length ≤ cap) (h3 : cap ≤ maxLen) (h4 : cur.size = cap * d.sz) (h5 : cur.toList.take (xs.length * d.sz) = inner) (hp : Reps (d.M w base (fun k => ok k ∧ k ≠ g)) d.sz xs inner) :
    d.R e w base ok (.slice (some ⟨g, 0, none⟩) xs.length cap) xs := by
  refine ⟨fun k e1 => ?_, inner, ⟨hp.1, .inr ⟨g, cap, cur, rfl, hg, hh, h2, h3, h4, h5⟩⟩, hp.imp_ fun _ _ hq => d.M_mono (fun k hk => ⟨hk.1, fun e => hk.2 (by simpa [Value.ownBlock] using e)⟩) hq⟩
  have : g = k := by simpa [Value.ownBlock] using e1
  exact this ▸ hk
theorem reps_one' {R : α → List Value → Prop} {size : Nat} {x : α} {cs : List Value} (h : R x cs) (hl : cs.length = size) : Reps R size [x] cs := by
  have := (Reps.none R size).snoc h hl
  simpa using this
/-- An element between. -/
theorem reps_insert {R : α → List Value → Prop} {size : Nat} {xs : List α} {inner cs : List Value} (h : Reps R size xs inner) {i : Nat} (hi : i ≤ xs.length) {x : α} (hx : R x cs) (hl : cs.length = size) :
    Reps R size (xs.take i ++ x :: xs.drop i) (inner.take (i * size) ++ (cs ++ inner.drop (i * size))) := by
  have h1 := reps_append (reps_take h hi) (reps_append (reps_one' hx hl) (reps_drop (m := i) h))
  simpa using h1
theorem cells_one {inner : List Value} (h : Reps (d.M w base ok) d.sz xs inner) (hs : 0 < d.sz) : ∀ u ∈ inner, u.oneCell' = true := by
  intro u hu
  obtain ⟨q, hq, rfl⟩ := List.mem_iff_getElem.1 hu
  have hql : q / d.sz < xs.length := by
    rw [Nat.div_lt_iff_lt_mul hs, ← h.1]
    exact hq
  refine d.K_one (d.K_of_M (h.2 (q / d.sz) _ (List.getElem?_eq_getElem hql))) _ ?_
  rw [List.mem_iff_getElem?]
  refine ⟨q % d.sz, ?_⟩
  rw [List.getElem?_take, if_pos (Nat.mod_lt _ hs), List.getElem?_drop, Nat.mul_comm, Nat.div_add_mod, List.getElem?_eq_getElem hq]
/-- What the row's cells hold behind a shift to the right and a store, in place. -/
theorem R_insert_room {g cap : Nat} {cur : Array Value} {cs : List Value} {x : α} {i : Nat} (hg : base ≤ g) (hk : ok g) (hh : w.heap[g]? = some (.cells cur e (0, 0))) (hc : xs.length + 1 ≤ cap) (h3 : cap ≤ maxLen) (h4 : cur.size = cap * d.sz) (hp : Reps (d.M w base (fun k => ok k ∧ k ≠ g)) d.sz xs (cur.toList.take (xs.length * d.sz)))
    (hi : i ≤ xs.length) (hx : d.M w base okp x cs) (hokp : ∀ k, okp k → ok k ∧ k ≠ g) (n : Nat) :
    d.R e (((w.drewN n).setCells g ((i + 1) * d.sz) ((cur.toList.take (xs.length * d.sz)).drop (i * d.sz))).setCells g (i * d.sz) cs) base ok (.slice (some ⟨g, 0, none⟩) (xs.length + 1) cap) (xs.take i ++ x :: xs.drop i) ∧
      w.grownBy (((w.drewN n).setCells g ((i + 1) * d.sz) ((cur.toList.take (xs.length * d.sz)).drop (i * d.sz))).setCells g (i * d.sz) cs) (some g) := by
  generalize hinner : cur.toList.take (xs.length * d.sz) = inner at hp ⊢
  have hil : inner.length = xs.length * d.sz := hp.1
  have hcl : cs.length = d.sz := d.K_len (d.K_of_M hx)
  have e1 : (i + 1) * d.sz = i * d.sz + d.sz := Nat.succ_mul _ _
  have e2 : (xs.length + 1) * d.sz = xs.length * d.sz + d.sz := Nat.succ_mul _ _
  have e3 : i * d.sz ≤ xs.length * d.sz := Nat.mul_le_mul_right _ hi
  have e4 : (xs.length + 1) * d.sz ≤ cap * d.sz := Nat.mul_le_mul_right _ hc
  have hdl : (inner.drop (i * d.sz)).length = xs.length * d.sz - i * d.sz := by rw [List.length_drop, hil]
  obtain ⟨cur1, c1, c2, c3⟩ := setCells_row (inner.drop (i * d.sz)) ((i + 1) * d.sz) (w.drewN n) cur hh (by rw [hdl]; omega)
  obtain ⟨cur2, c4, c5, c6⟩ := setCells_row cs (i * d.sz) _ cur1 c1 (by rw [hcl]; omega)
  obtain ⟨a1, a2, a3, a4⟩ := setCells_same g (inner.drop (i * d.sz)) ((i + 1) * d.sz) (w.drewN n)
  obtain ⟨b1, b2, b3, b4⟩ := setCells_same g cs (i * d.sz) ((w.drewN n).setCells g ((i + 1) * d.sz) (inner.drop (i * d.sz)))
  have hfar : ∀ k, k ≠ g → (((w.drewN n).setCells g ((i + 1) * d.sz) (inner.drop (i * d.sz))).setCells g (i * d.sz) cs).heap[k]? = w.heap[k]? := fun k hk =>
    (setCells_far cs _ k hk).trans (setCells_far _ _ k hk)
  have hnew : (xs.take i ++ x :: xs.drop i).length = xs.length + 1 := by simp; omega
  refine ⟨?_, ⟨b1.trans a1, b2.trans a2, b3.trans a3, by rw [b4, a4]; exact Nat.le_refl _, fun k _ hk => hfar k (fun e => hk (by rw [e]))⟩⟩
  have hfin : cur2.toList.take ((xs.length + 1) * d.sz) = inner.take (i * d.sz) ++ (cs ++ inner.drop (i * d.sz)) := by
    have ht : cur.toList.take (i * d.sz) = inner.take (i * d.sz) := by rw [← hinner, List.take_take, Nat.min_eq_left e3]
    have hclen : cur.toList.length = cap * d.sz := by rw [Array.length_toList, h4]
    have l1 : (cur.toList.take ((i + 1) * d.sz)).length = (i + 1) * d.sz := by rw [List.length_take, hclen]; omega
    rw [c6, c3, hcl]
    have t1 : ((cur.toList.take ((i + 1) * d.sz) ++ inner.drop (i * d.sz)) ++ cur.toList.drop ((i + 1) * d.sz + (inner.drop (i * d.sz)).length)).take (i * d.sz) = inner.take (i * d.sz) := by
      rw [List.append_assoc, List.take_append_of_le_length (by rw [l1]; omega), List.take_take, Nat.min_eq_left (by omega), ht]
    have t2 : ((cur.toList.take ((i + 1) * d.sz) ++ inner.drop (i * d.sz)) ++ cur.toList.drop ((i + 1) * d.sz + (inner.drop (i * d.sz)).length)).drop (i * d.sz + d.sz) = inner.drop (i * d.sz) ++ cur.toList.drop ((i + 1) * d.sz + (inner.drop (i * d.sz)).length) := by
      rw [List.append_assoc, List.drop_append_of_le_length (by rw [l1]; omega), List.drop_of_length_le (by rw [l1]; omega), List.nil_append]
    rw [t1, t2, List.append_assoc]
    rw [List.take_append, List.take_of_length_le (by rw [List.length_take, hil]; omega)]
    congr 1
    rw [List.length_take, hil, Nat.min_eq_left e3, List.take_append, List.take_of_length_le (by rw [hcl]; omega)]
    congr 1
    rw [hcl, List.take_append_of_le_length (by rw [hdl]; omega), List.take_of_length_le (by rw [hdl]; omega)]
  have hp' : Reps (d.M (((w.drewN n).setCells g ((i + 1) * d.sz) (inner.drop (i * d.sz))).setCells g (i * d.sz) cs) base (fun k => ok k ∧ k ≠ g)) d.sz (xs.take i ++ x :: xs.drop i) (inner.take (i * d.sz) ++ (cs ++ inner.drop (i * d.sz))) := by
    refine (reps_insert (R := d.M w base (fun k => ok k ∧ k ≠ g)) hp hi (d.M_mono hokp hx) hcl).imp_ fun _ _ hq => ?_
    exact d.M_move (fun k hk => hfar k hk.2) hq
  have := R_close (d := d) (xs := xs.take i ++ x :: xs.drop i) (cap := cap) hg hk c4 (by rw [hnew]; exact hc) h3 (by rw [c5, c2, h4]) (by rw [hnew]; exact hfin) hp'
  rw [hnew] at this
  exact this
/-- A new row: what stood ahead of the place, the element, what stood behind, and spare cells. -/
theorem R_insert_grow {cap : Nat} {row : Array Value} {inner cs : List Value} {x : α} {i : Nat} (hbase : base ≤ w.heap.size) (hfresh : ∀ k, w.heap.size ≤ k → ok k) (hc : xs.length + 1 ≤ cap) (h3 : cap ≤ maxLen) (h4 : row.size = cap * d.sz) (hp : Reps (d.M w base ok) d.sz xs inner) (hrow : row.toList.take (i * d.sz) = inner.take (i * d.sz))
    (hi : i ≤ xs.length) (hx : d.M w base ok x cs) (n m : Nat) :
    d.R e ((((w.alloc (.cells row e)).drewN n).setCells w.heap.size (i * d.sz) cs).drewN m |>.setCells w.heap.size ((i + 1) * d.sz) (inner.drop (i * d.sz))) base ok (.slice (some ⟨w.heap.size, 0, none⟩) (xs.length + 1) cap) (xs.take i ++ x :: xs.drop i) ∧
      w.grownBy ((((w.alloc (.cells row e)).drewN n).setCells w.heap.size (i * d.sz) cs).drewN m |>.setCells w.heap.size ((i + 1) * d.sz) (inner.drop (i * d.sz))) none := by
  have hil : inner.length = xs.length * d.sz := hp.1
  have hcl : cs.length = d.sz := d.K_len (d.K_of_M hx)
  have e1 : (i + 1) * d.sz = i * d.sz + d.sz := Nat.succ_mul _ _
  have e2 : (xs.length + 1) * d.sz = xs.length * d.sz + d.sz := Nat.succ_mul _ _
  have e3 : i * d.sz ≤ xs.length * d.sz := Nat.mul_le_mul_right _ hi
  have e4 : (xs.length + 1) * d.sz ≤ cap * d.sz := Nat.mul_le_mul_right _ hc
  have hdl : (inner.drop (i * d.sz)).length = xs.length * d.sz - i * d.sz := by rw [List.length_drop, hil]
  have hh : ((w.alloc (.cells row e)).drewN n).heap[w.heap.size]? = some (.cells row e (0, 0)) := blk_new w _
  obtain ⟨cur1, c1, c2, c3⟩ := setCells_row cs (i * d.sz) _ row hh (by rw [hcl]; omega)
  have c1' : ((((w.alloc (.cells row e)).drewN n).setCells w.heap.size (i * d.sz) cs).drewN m).heap[w.heap.size]? = some (.cells cur1 e (0, 0)) := c1
  obtain ⟨cur2, c4, c5, c6⟩ := setCells_row (inner.drop (i * d.sz)) ((i + 1) * d.sz) _ cur1 c1' (by rw [hdl]; omega)
  obtain ⟨a1, a2, a3, a4⟩ := setCells_same w.heap.size cs (i * d.sz) ((w.alloc (.cells row e)).drewN n)
  obtain ⟨b1, b2, b3, b4⟩ := setCells_same w.heap.size (inner.drop (i * d.sz)) ((i + 1) * d.sz) ((((w.alloc (.cells row e)).drewN n).setCells w.heap.size (i * d.sz) cs).drewN m)
  have hfar : ∀ k, k < w.heap.size → (((((w.alloc (.cells row e)).drewN n).setCells w.heap.size (i * d.sz) cs).drewN m).setCells w.heap.size ((i + 1) * d.sz) (inner.drop (i * d.sz))).heap[k]? = w.heap[k]? := fun k hk => by
    rw [setCells_far _ _ k (by omega)]
    show (((w.alloc (.cells row e)).drewN n).setCells w.heap.size (i * d.sz) cs).heap[k]? = _
    rw [setCells_far _ _ k (by omega)]
    show (w.alloc (.cells row e)).heap[k]? = _
    exact Below.heap_alloc w _ k hk
  have hnew : (xs.take i ++ x :: xs.drop i).length = xs.length + 1 := by simp; omega
  refine ⟨?_, ⟨b1.trans a1, b2.trans a2, b3.trans a3, ?_, fun k hk _ => hfar k hk⟩⟩
  · have hfin : cur2.toList.take ((xs.length + 1) * d.sz) = inner.take (i * d.sz) ++ (cs ++ inner.drop (i * d.sz)) := by
      have hclen : row.toList.length = cap * d.sz := by rw [Array.length_toList, h4]
      have l1 : (row.toList.take (i * d.sz)).length = i * d.sz := by rw [List.length_take, hclen]; omega
      rw [c6, c3, hcl]
      have t1 : ((row.toList.take (i * d.sz) ++ cs) ++ row.toList.drop (i * d.sz + d.sz)).take ((i + 1) * d.sz) = inner.take (i * d.sz) ++ cs := by
        rw [e1, List.take_append_of_le_length (by rw [List.length_append, l1, hcl]; omega), List.take_of_length_le (by rw [List.length_append, l1, hcl]; omega), hrow]
      rw [t1, List.append_assoc, List.append_assoc, List.take_append, List.take_of_length_le (by rw [List.length_take, hil]; omega)]
      congr 1
      rw [List.length_take, hil, Nat.min_eq_left e3, List.take_append, List.take_of_length_le (by rw [hcl]; omega)]
      congr 1
      rw [hcl, List.take_append_of_le_length (by rw [hdl]; omega), List.take_of_length_le (by rw [hdl]; omega)]
    have hp' : Reps (d.M (((((w.alloc (.cells row e)).drewN n).setCells w.heap.size (i * d.sz) cs).drewN m).setCells w.heap.size ((i + 1) * d.sz) (inner.drop (i * d.sz))) base (fun k => ok k ∧ k ≠ w.heap.size)) d.sz (xs.take i ++ x :: xs.drop i) (inner.take (i * d.sz) ++ (cs ++ inner.drop (i * d.sz))) := by
      refine (reps_insert (R := d.M w base ok) hp hi hx hcl).imp_ fun _ _ hq => ?_
      refine d.M_mono (fun k hk => ⟨hk.1, by have := hk.2.2.1; omega⟩) (d.M_move (fun k hk => hfar k hk.2.2.1) (d.M_bound hq))
    have := R_close (d := d) (xs := xs.take i ++ x :: xs.drop i) (cap := cap) hbase (hfresh _ (Nat.le_refl _)) c4 (by rw [hnew]; exact hc) h3 (by rw [c5, c2, h4]) (by rw [hnew]; exact hfin) hp'
    rw [hnew] at this
    exact this
  · rw [b4]
    show w.heap.size ≤ (((w.alloc (.cells row e)).drewN n).setCells w.heap.size (i * d.sz) cs).heap.size
    rw [a4]
    show w.heap.size ≤ (w.alloc (.cells row e)).heap.size
    simp
end
section
variable {α : Type} {d : Kd α} {e : Nat} {w : World} {base : Nat} {ok : Nat → Prop} {xs : List α}
/-- A row's first elements, whatever is written behind them. -/
theorem R_cut_clear {g cap : Nat} {cur : Array Value} {i : Nat} (hg : base ≤ g) (hk : ok g) (hh : w.heap[g]? = some (.cells cur e (0, 0))) (h2 : xs.length ≤ cap) (h3 : cap ≤ maxLen) (h4 : cur.size = cap * d.sz) (hp : Reps (d.M w base (fun k => ok k ∧ k ≠ g)) d.sz xs (cur.toList.take (xs.length * d.sz)))
    (hi : i ≤ xs.length) (vs : List Value) (hv : i * d.sz + vs.length ≤ cur.size) : d.R e (w.setCells g (i * d.sz) vs) base ok (.slice (some ⟨g, 0, none⟩) i cap) (xs.take i) ∧ w.grownBy (w.setCells g (i * d.sz) vs) (some g) := by
  obtain ⟨cur1, c1, c2, c3⟩ := setCells_row vs (i * d.sz) w cur hh hv
  obtain ⟨a1, a2, a3, a4⟩ := setCells_same g vs (i * d.sz) w
  have hfar : ∀ k, k ≠ g → (w.setCells g (i * d.sz) vs).heap[k]? = w.heap[k]? := fun k hk => setCells_far vs _ k hk
  have hl : (xs.take i).length = i := by rw [List.length_take]; omega
  have e3 : i * d.sz ≤ xs.length * d.sz := Nat.mul_le_mul_right _ hi
  have hp' : Reps (d.M (w.setCells g (i * d.sz) vs) base (fun k => ok k ∧ k ≠ g)) d.sz (xs.take i) ((cur.toList.take (xs.length * d.sz)).take (i * d.sz)) := (reps_take hp hi).imp_ fun _ _ hq => d.M_move (fun k hk => hfar k hk.2) hq
  have hcl : cur.toList.length = cur.size := Array.length_toList
  have := R_close (d := d) (xs := xs.take i) (cap := cap) hg hk c1 (by rw [hl]; omega) h3 (by rw [c2, h4]) (by
    rw [hl, c3, List.append_assoc, List.take_append_of_le_length (by rw [List.length_take]; omega), List.take_take, Nat.min_self, List.take_take, Nat.min_eq_left e3]) hp'
  rw [hl] at this
  exact ⟨this, ⟨a1, a2, a3, by rw [a4]; exact Nat.le_refl _, fun k _ hk => hfar k (fun e => hk (by rw [e]))⟩⟩
end
section
variable {P : Program}
theorem append_types (w : World) (t tx ty e e' : TypeId) (ht : P.underlying t = some (.slice e)) (hx : P.underlying tx = some (.slice e')) (s x : Value) : (Builtin.append_ #[t, tx] ty #[s, x]).run P w = (Builtin.append_ #[t, t] ty #[s, x]).run P w := by
  cases s <;> simp [Builtin.append_, run_underlying ht, run_underlying hx]
variable {α : Type} {W : World} {base : Nat} {ok okp : Nat → Prop} {v : Value} {xs : List α}
/-- append(v, x), x in a block of its own. -/
theorem R_append_one_run (d : Kd α) (t tx ty e e' : TypeId) (i : TypeInfo) (z : Value) (bytes : Nat) (ht : P.underlying t = some (.slice e)) (htx : P.underlying tx = some (.slice e')) (hi : P.info? e = some i) (hz : i.zero = some z) (hsz : i.size = d.sz) (hby : i.bytes = bytes) (hzs : z.cells.size = d.sz) (hs0 : 0 < d.sz) (hb0 : 0 < bytes)
    (HO : d.R e W base ok v xs) {x : α} {cs : List Value} (hx : d.M W base okp x cs) (hokp : ∀ k, okp k → ok k ∧ some k ≠ v.ownBlock) (hfresh : ∀ k, W.heap.size ≤ k → ok k) {a : Addr} (hc : ∀ j u, cs[j]? = some u → W.cell? (a.add j) = some u) (m : Nat) (hbase : base ≤ W.heap.size) (hl : (xs.length + 1) * bytes ≤ 140737488355328) :
    ∃ v1 w1, (Builtin.append_ #[t, tx] ty #[v, .slice (some a) 1 m]).run P W = .ok v1 w1 ∧ d.R e w1 base ok v1 (xs ++ [x]) ∧ W.grownBy w1 v.ownBlock := by
  have hlen : xs.length + 1 ≤ 140737488355328 := Nat.le_trans (Nat.le_mul_of_pos_right _ hb0) hl
  obtain ⟨h0, inner, hown, hr⟩ := HO
  have hcl : cs.length = d.sz := d.K_len (d.K_of_M hx)
  obtain ⟨v1, w1, hrun, h2, hg, _, hat⟩ := run_append_own_at (P := P) W base t ty e i z d.sz bytes ht hi hz hsz hby hzs hs0 v xs.length inner hown a 1 m cs (by rw [hcl, Nat.one_mul]) hc (d.K_one (d.K_of_M hx)) (by simp only [maxLen]; omega) hl hbase
  refine ⟨v1, w1, by rw [append_types W t tx ty e e' ht htx]; exact hrun, R_appended h0 hr hx hokp hfresh h2 hg ?_, hg⟩
  rcases hat with hat | hat
  · exact .inl hat
  · exact .inr ⟨_, hat, Nat.le_refl _⟩
end
end Go.Proofs.Ytgdkgobplinelaa
