/- MatrixMerges: of all two Matrices what both say is told; how far all of some are then is as far as by either one, or farther. No condition beyond the statement's own. -/
import Derived.Test.YtoodahceejdbcaaBase
import Derived.Shelf.SlSortCmp.NoneTotal
import Derived.Lib.SlicesCompact
import Derived.Test.YtoodahceejdbcaaTl
import Derived.Test.YtoodahceejdbcaaP5
import Derived.Test.YtoodahceejdbcaaP6
import Derived.Test.YtoodahceejdbcaaP3
import Derived.Test.YtoodahceejdbcaaP0
import Derived.Test.YtoodahceejdbcaaP4
import Derived.Test.YtoodahceejdbcaaP8
import Derived.Test.YtoodahceejdbcaaP7
import Derived.Test.YtoodahceejdbcaaP16
import Derived.Test.YtoodahceejdbcaaP9
import Derived.Test.YtoodahceejdbcaaP11
import Derived.Test.YtoodahceejdbcaaP10
import Derived.Test.YtoodahceejdbcaaGoalMatrixMerges
/- The order of names as the library's sort wants it. No program in sight. -/
namespace Go.Proofs.Ytoodahceejdbcaa
open Go.Sort
theorem ltB_iff (x y : ByteArray) : ltOf cmpB x y = true ↔ Lib.compareBytes x.data.toList y.data.toList = -1 := by
 have e : ltOf cmpB x y = decide (Lib.compareBytes x.data.toList y.data.toList < 0) := rfl
 rw [e, decide_eq_true_eq]
 rcases cmp_range x.data.toList y.data.toList with h | h | h <;> omega
theorem ltB_false (x y : ByteArray) : ltOf cmpB x y = false ↔ 0 ≤ Lib.compareBytes x.data.toList y.data.toList := by
 rw [← Bool.not_eq_true, ltB_iff]
 rcases cmp_range x.data.toList y.data.toList with h | h | h <;> omega
theorem bytes_ext {x y : ByteArray} (h : x.data.toList = y.data.toList) : x = y := by
 apply ByteArray.ext; exact Array.toList_inj.mp h
theorem cmp_le_trans {a b c : List UInt8} (h1 : Lib.compareBytes a b ≤ 0) (h2 : Lib.compareBytes b c ≤ 0) : Lib.compareBytes a c ≤ 0 := by
 rcases cmp_range a b with e1 | e1 | e1
 ·rcases cmp_range b c with e2 | e2 | e2
  ·rw [cmp_lt_trans e1 e2]; decide
  ·rw [← cmp_zero e2, e1]; decide
  ·omega
 ·rw [cmp_zero e1]; exact h2
 ·omega
theorem swoB : SWO (ltOf cmpB) where
 irrefl x := by rw [ltB_false, cmp_self]; decide
 trans x y z h1 h2 := by rw [ltB_iff] at *; exact cmp_lt_trans h1 h2
 ntrans x y z h1 h2 := by
  rw [ltB_false] at *
  have e1 := cmp_neg x.data.toList y.data.toList
  have e2 := cmp_neg y.data.toList z.data.toList
  have e3 := cmp_neg x.data.toList z.data.toList
  have := @cmp_le_trans z.data.toList y.data.toList x.data.toList (by omega) (by omega)
  omega
theorem totB (x y : ByteArray) (h1 : ltOf cmpB x y = false) (h2 : ltOf cmpB y x = false) : x = y := by
 rw [ltB_false] at *
 have e1 := cmp_neg x.data.toList y.data.toList
 exact bytes_ext (cmp_zero (by omega))
/-- Names in order. -/
def sortB (l : List ByteArray) : List ByteArray := l.mergeSort fun x y => !(ltOf cmpB) y x
/-- All of both, each once, in order. -/
def unionB (l : List ByteArray) : List ByteArray := Lib.compactUpTo (sortB l).toArray (sortB l).toArray.size
end Go.Proofs.Ytoodahceejdbcaa

/- Lists in strict order: what tells two of them apart, how one grows by an element that sinks from its end, and how one is searched. No program in sight. -/
namespace Go.Proofs.Ytoodahceejdbcaa
variable {α : Type}
/-- A strict total order. -/
structure TO (lt : α → α → Prop) : Prop where
 irrefl : ∀ x, ¬ lt x x
 trans : ∀ x y z, lt x y → lt y z → lt x z
 tri : ∀ x y, x = y ∨ lt x y ∨ lt y x
theorem TO.asymm {lt : α → α → Prop} (h : TO lt) {x y : α} (h1 : lt x y) (h2 : lt y x) : False := h.irrefl _ (h.trans _ _ _ h1 h2)
/-- Two lists in strict order with the same elements are one. -/
theorem ssort_unique {lt : α → α → Prop} (h : TO lt) : ∀ {a b : List α}, a.Pairwise lt → b.Pairwise lt → (∀ x, x ∈ a ↔ x ∈ b) → a = b
 | [], [], _, _, _ => rfl
 | [], y :: b, _, _, he => by have := (he y).mpr (by simp); simp at this
 | x :: a, [], _, _, he => by have := (he x).mp (by simp); simp at this
 | x :: a, y :: b, ha, hb, he => by
  rw [List.pairwise_cons] at ha hb
  have hxy : x = y := by
   have h1 := (he x).mp (by simp)
   have h2 := (he y).mpr (by simp)
   rw [List.mem_cons] at h1 h2
   rcases h1 with h1 | h1
   ·exact h1
   ·rcases h2 with h2 | h2
    ·exact h2.symm
    ·exact (h.asymm (ha.1 _ h2) (hb.1 _ h1)).elim
  subst hxy
  have : a = b := ssort_unique h ha.2 hb.2 fun z => by
   have hz := he z
   simp only [List.mem_cons] at hz
   constructor
   ·intro hm
    rcases hz.mp (Or.inr hm) with e | e
    ·subst e; exact (h.irrefl _ (ha.1 _ hm)).elim
    ·exact e
   ·intro hm
    rcases hz.mpr (Or.inr hm) with e | e
    ·subst e; exact (h.irrefl _ (hb.1 _ hm)).elim
    ·exact e
  rw [this]
/-- An element sinks from the end to its place: the part ahead of it comes backwards. -/
def sinkR (gt : α → α → Bool) (v : α) : List α → List α → List α
 | [], q => v :: q
 | u :: p, q => if gt u v = true then sinkR gt v p (u :: q) else (u :: p).reverse ++ v :: q
def sink (gt : α → α → Bool) (v : α) (l : List α) : List α := sinkR gt v l.reverse []
theorem sinkR_perm (gt : α → α → Bool) (v : α) : ∀ p q, (sinkR gt v p q).Perm (v :: (p.reverse ++ q))
 | [], q => by simp [sinkR]
 | u :: p, q => by
  unfold sinkR
  split
  ·refine (sinkR_perm gt v p (u :: q)).trans ?_
   simp
  ·exact List.perm_middle
theorem sink_perm (gt : α → α → Bool) (v : α) (l : List α) : (sink gt v l).Perm (v :: l) := by
 have := sinkR_perm gt v l.reverse []
 simpa [sink] using this
theorem mem_sink {gt : α → α → Bool} {v : α} {l : List α} {x : α} : x ∈ sink gt v l ↔ x = v ∨ x ∈ l := by
 rw [(sink_perm gt v l).mem_iff, List.mem_cons]
theorem sink_length (gt : α → α → Bool) (v : α) (l : List α) : (sink gt v l).length = l.length + 1 := by
 rw [(sink_perm gt v l).length_eq, List.length_cons]
theorem sinkR_sorted {lt : α → α → Prop} (h : TO lt) {gt : α → α → Bool} (v : α) : ∀ p q, (∀ u, u ∈ p → (gt u v = true ↔ lt v u)) → (∀ u ∈ p, u ≠ v) → (p.reverse ++ q).Pairwise lt → (∀ u ∈ q, lt v u) → (sinkR gt v p q).Pairwise lt
 | [], q, hg, hn, hs, hv => by
  rw [sinkR, List.pairwise_cons]; exact ⟨hv, by simpa using hs⟩
 | u :: p, q, hg, hn, hs, hv => by
  unfold sinkR
  split
  ·rename_i hgt
   refine sinkR_sorted h v p (u :: q) (fun u hu => hg u (List.mem_cons_of_mem _ hu)) (fun w hw => hn w (List.mem_cons_of_mem _ hw)) (by simpa using hs) ?_
   intro w hw
   rcases List.mem_cons.mp hw with e | e
   ·subst e; exact (hg w (by simp)).mp hgt
   ·exact hv w e
  ·rename_i hgt
   have hlt : lt u v := by
    rcases h.tri u v with e | e | e
    ·exact absurd e (hn u (by simp))
    ·exact e
    ·exact absurd ((hg u (by simp)).mpr e) hgt
   rw [List.pairwise_append] at hs ⊢
   refine ⟨hs.1, ?_, ?_⟩
   ·rw [List.pairwise_cons]; exact ⟨hv, hs.2.1⟩
   ·intro a ha b hb
    rcases List.mem_cons.mp hb with e | e
    ·subst e
     rw [List.mem_reverse, List.mem_cons] at ha
     rcases ha with e | e
     ·subst e; exact hlt
     ·have h1 := hs.1
      rw [List.reverse_cons, List.pairwise_append] at h1
      exact h.trans _ _ _ (h1.2.2 a (by simpa using e) u (by simp)) hlt
    ·exact hs.2.2 a ha b e
theorem sink_sorted {lt : α → α → Prop} (h : TO lt) {gt : α → α → Bool} (v : α) (l : List α) (hg : ∀ u, u ∈ l → (gt u v = true ↔ lt v u)) (hn : v ∉ l) (hs : l.Pairwise lt) : (sink gt v l).Pairwise lt := by
 unfold sink
 refine sinkR_sorted h v _ _ (fun u hu => hg u (by simpa using hu)) (fun u hu e => hn (by subst e; simpa using hu)) (by simpa using hs) (by simp)
/-- A list without what stands behind its equal. -/
theorem compact_sorted [Inhabited α] [DecidableEq α] {lt : α → α → Prop} (h : TO lt) (d : Array α) (hs : ∀ i j, i < j → j < d.size → ¬ lt d[j]! d[i]!) : ∀ m, m ≤ d.size → (Lib.compactUpTo d m).Pairwise lt ∧ ∀ x, x ∈ Lib.compactUpTo d m ↔ ∃ j, j < m ∧ d[j]! = x
 | 0, _ => by simp [Lib.compactUpTo]
 | m + 1, hm => by
  obtain ⟨h1, h2⟩ := compact_sorted h d hs m (by omega)
  rw [Lib.compactUpTo_succ]
  by_cases hk : Lib.keeps d m = true
  ·rw [if_pos hk]
   constructor
   ·rw [List.pairwise_append]
    refine ⟨h1, List.pairwise_singleton _ _, ?_⟩
    intro a ha b hb
    rw [List.mem_singleton] at hb; subst hb
    obtain ⟨j, hj, rfl⟩ := (h2 a).mp ha
    have hne : d[m]! ≠ d[m - 1]! := by
     have hk' := of_decide_eq_true hk
     rcases hk' with e | e
     ·omega
     ·exact e
    have hlt : lt d[m - 1]! d[m]! := by
     rcases h.tri d[m - 1]! d[m]! with e | e | e
     ·exact absurd e.symm hne
     ·exact e
     ·exact absurd e (hs _ _ (by omega) (by omega))
    by_cases e : j = m - 1
    ·subst e; exact hlt
    ·rcases h.tri d[j]! d[m - 1]! with e' | e' | e'
     ·rw [e']; exact hlt
     ·exact h.trans _ _ _ e' hlt
     ·exact absurd e' (hs _ _ (by omega) (by omega))
   ·intro x
    rw [List.mem_append, List.mem_singleton, h2]
    constructor
    ·rintro (⟨j, hj, e⟩ | e)
     ·exact ⟨j, by omega, e⟩
     ·exact ⟨m, by omega, e.symm⟩
    ·rintro ⟨j, hj, e⟩
     by_cases e' : j = m
     ·subst e'; exact Or.inr e.symm
     ·exact Or.inl ⟨j, by omega, e⟩
  ·rw [if_neg hk, List.append_nil]
   refine ⟨h1, fun x => ?_⟩
   rw [h2]
   have hk' : ¬ (m = 0 ∨ d[m]! ≠ d[m - 1]!) := fun e => hk (decide_eq_true e)
   have hm0 : m ≠ 0 := fun e => hk' (Or.inl e)
   have he : d[m]! = d[m - 1]! := Classical.byContradiction fun e => hk' (Or.inr e)
   constructor
   ·rintro ⟨j, hj, e⟩; exact ⟨j, by omega, e⟩
   ·rintro ⟨j, hj, e⟩
    by_cases e' : j = m
    ·subst e'; exact ⟨j - 1, by omega, by rw [← he]; exact e⟩
    ·exact ⟨j, by omega, e⟩
/-- Sorted, and each once. -/
theorem sort_compact [Inhabited α] [DecidableEq α] {lt : α → α → Prop} (h : TO lt) (le : α → α → Bool) (hle : ∀ x y, le x y = true ↔ ¬ lt y x) (l : List α) :
  (Lib.compactUpTo (l.mergeSort le).toArray (l.mergeSort le).toArray.size).Pairwise lt ∧ ∀ x, x ∈ Lib.compactUpTo (l.mergeSort le).toArray (l.mergeSort le).toArray.size ↔ x ∈ l := by
 have hsort : (l.mergeSort le).Pairwise (fun a b => le a b = true) := by
  refine List.pairwise_mergeSort ?_ ?_ l
  ·intro a b c h1 h2
   rw [hle] at *
   intro h3
   rcases h.tri a b with e | e | e
   ·subst e; exact h2 h3
   ·rcases h.tri b c with e' | e' | e'
    ·subst e'; exact h1 h3
    ·exact h.asymm h3 (h.trans _ _ _ e e')
    ·exact h2 e'
   ·exact h1 e
  ·intro a b
   rw [Bool.or_eq_true, hle, hle]
   rcases h.tri a b with e | e | e
   ·subst e; exact Or.inl (h.irrefl _)
   ·exact Or.inl fun h2 => h.asymm e h2
   ·exact Or.inr fun h2 => h.asymm e h2
 have hs : ∀ i j, i < j → j < (l.mergeSort le).toArray.size → ¬ lt (l.mergeSort le).toArray[j]! (l.mergeSort le).toArray[i]! := by
  intro i j hij hj
  have hj' : j < (l.mergeSort le).length := by simpa using hj
  have hi' : i < (l.mergeSort le).length := by omega
  have := List.pairwise_iff_getElem.mp hsort i j hi' hj' hij
  rw [hle] at this
  rwa [getElem!_pos _ j hj, getElem!_pos _ i (by simpa using hi'), List.getElem_toArray, List.getElem_toArray]
 obtain ⟨h1, h2⟩ := compact_sorted h _ hs _ (Nat.le_refl _)
 refine ⟨h1, fun x => ?_⟩
 rw [h2, ← (List.mergeSort_perm l le).mem_iff]
 constructor
 ·rintro ⟨j, hj, e⟩
  rw [getElem!_pos _ j hj, List.getElem_toArray] at e
  exact e ▸ List.getElem_mem _
 ·intro hx
  obtain ⟨j, hj, e⟩ := List.mem_iff_getElem.mp hx
  exact ⟨j, by simpa using hj, by rw [getElem!_pos _ j (by simpa using hj), List.getElem_toArray]; exact e⟩
/-- What a search by halves finds: the first place that isn't below. -/
theorem bsI_spec (c : Nat → Int) (n : Nat) (hm : ∀ i j, i < j → j < n → c j < 0 → c i < 0) : ∀ f i j, i ≤ j → j ≤ n → j - i < f → (∀ x, x < i → c x < 0) → (∀ x, j ≤ x → x < n → ¬ c x < 0) →
  i ≤ bsI c f i j ∧ bsI c f i j ≤ j ∧ (∀ x, x < bsI c f i j → c x < 0) ∧ (∀ x, bsI c f i j ≤ x → x < n → ¬ c x < 0)
 | 0, i, j, _, _, hf, _, _ => absurd hf (by omega)
 | f + 1, i, j, hij, hj, hf, hl, hr => by
  unfold bsI
  by_cases h : i < j
  ·rw [if_pos h]
   by_cases hc : c ((i + j) / 2) < 0
   ·rw [if_pos hc]
    obtain ⟨a, b, d, e⟩ := bsI_spec c n hm f ((i + j) / 2 + 1) j (by omega) hj (by omega) (fun x hx => by
     by_cases e : x = (i + j) / 2
     ·subst e; exact hc
     ·exact hm x _ (by omega) (by omega) hc) hr
    exact ⟨by omega, b, d, e⟩
   ·rw [if_neg hc]
    obtain ⟨a, b, d, e⟩ := bsI_spec c n hm f i ((i + j) / 2) (by omega) (by omega) (by omega) hl (fun x hx hxn hcx => by
     by_cases e : x = (i + j) / 2
     ·subst e; exact hc hcx
     ·exact hc (hm _ x (by omega) hxn hcx))
    exact ⟨a, by omega, d, e⟩
  ·rw [if_neg h]
   have : i = j := by omega
   subst this
   exact ⟨Nat.le_refl _, Nat.le_refl _, hl, hr⟩
theorem bsN_spec (c : Nat → Int) (n : Nat) (hm : ∀ i j, i < j → j < n → c j < 0 → c i < 0) : bsN c n ≤ n ∧ (∀ x, x < bsN c n → c x < 0) ∧ (∀ x, bsN c n ≤ x → x < n → ¬ c x < 0) := by
 obtain ⟨_, h2, h3, h4⟩ := bsI_spec c n hm (n + 1) 0 n (Nat.zero_le _) (Nat.le_refl _) (by omega) (fun x hx => absurd hx (by omega)) (fun x h1 h2 => absurd h2 (by omega))
 exact ⟨h2, h3, h4⟩
theorem bsB_iff (c : Nat → Int) (n : Nat) (hm : ∀ i j, i < j → j < n → c j < 0 → c i < 0) (hz : ∀ i j, i < j → j < n → c j = 0 → c i < 0) : bsB c n = true ↔ ∃ i, i < n ∧ c i = 0 := by
 obtain ⟨h1, h2, h3⟩ := bsN_spec c n hm
 unfold bsB
 rw [Bool.and_eq_true, decide_eq_true_eq, decide_eq_true_eq]
 constructor
 ·rintro ⟨a, b⟩; exact ⟨_, a, b⟩
 ·rintro ⟨i, hi, hc⟩
  have hge : bsN c n ≤ i := by
   apply Classical.byContradiction; intro h
   have := h2 i (by omega); omega
  by_cases e : bsN c n = i
  ·rw [e]; exact ⟨hi, hc⟩
  ·have := hz (bsN c n) i (by omega) hi hc
   exact absurd this (h3 _ (Nat.le_refl _) (by omega))
end Go.Proofs.Ytoodahceejdbcaa

/- Lists of names in strict order. No program in sight. -/
namespace Go.Proofs.Ytoodahceejdbcaa
open Go.Sort
def ltB (x y : ByteArray) : Prop := cmpB x y < 0
instance (x y : ByteArray) : Decidable (ltB x y) := by unfold ltB; infer_instance
theorem ltB_one {x y : ByteArray} : ltB x y ↔ Lib.compareBytes x.data.toList y.data.toList = -1 := by
 unfold ltB cmpB
 rcases cmp_range x.data.toList y.data.toList with h | h | h <;> omega
theorem cmpB_zero {x y : ByteArray} : cmpB x y = 0 ↔ x = y := by
 unfold cmpB
 constructor
 ·intro h; exact bytes_ext (cmp_zero h)
 ·intro h; subst h; exact cmp_self _
theorem cmpB_neg (x y : ByteArray) : cmpB y x = - cmpB x y := cmp_neg _ _
theorem toB : TO ltB where
 irrefl x := by unfold ltB; rw [cmpB_zero.mpr rfl]; decide
 trans x y z h1 h2 := by rw [ltB_one] at *; exact cmp_lt_trans h1 h2
 tri x y := by
  unfold ltB
  have e := cmpB_neg x y
  by_cases h : cmpB x y = 0
  ·exact Or.inl (cmpB_zero.mp h)
  ·by_cases h2 : cmpB x y < 0
   ·exact Or.inr (Or.inl h2)
   ·exact Or.inr (Or.inr (by omega))
theorem gtB {x y : ByteArray} : cmpB x y > 0 ↔ ltB y x := by
 unfold ltB; have := cmpB_neg x y; omega
theorem sortB_le (x y : ByteArray) : (!(ltOf cmpB) y x) = true ↔ ¬ ltB y x := by
 rw [Bool.not_eq_true', ltB_false]; unfold ltB cmpB; omega
theorem unionB_sorted (l : List ByteArray) : (unionB l).Pairwise ltB := (sort_compact toB _ sortB_le l).1
theorem mem_unionB (l : List ByteArray) (x : ByteArray) : x ∈ unionB l ↔ x ∈ l := (sort_compact toB _ sortB_le l).2 x
theorem getD_mem {α : Type} {l : List α} {i : Nat} (h : i < l.length) (d : α) : l.getD i d ∈ l := by
 simp [List.getD, List.getElem?_eq_getElem h]
theorem getD_eq {α : Type} {l : List α} {i : Nat} (h : i < l.length) (d : α) : l.getD i d = l[i] := by
 simp [List.getD, List.getElem?_eq_getElem h]
theorem mem_getD {α : Type} {l : List α} {x : α} (h : x ∈ l) (d : α) : ∃ i, i < l.length ∧ l.getD i d = x := by
 obtain ⟨i, hi, e⟩ := List.mem_iff_getElem.mp h
 exact ⟨i, hi, by rw [getD_eq hi]; exact e⟩
/-- A search among names in order finds what is there. -/
theorem bsB_mem (l : List ByteArray) (a : ByteArray) (hs : l.Pairwise ltB) : bsB (fun i => cmpB (l.getD i ByteArray.empty) a) l.length = true ↔ a ∈ l := by
 have hp : ∀ i j, i < j → j < l.length → ltB (l.getD i ByteArray.empty) (l.getD j ByteArray.empty) := by
  intro i j hij hj
  rw [getD_eq hj, getD_eq (show i < l.length by omega)]
  exact List.pairwise_iff_getElem.mp hs i j _ _ hij
 have := bsB_iff (fun i => cmpB (l.getD i ByteArray.empty) a) l.length (fun i j hij hj h => toB.trans _ _ _ (hp i j hij hj) h) (fun i j hij hj h => by
  have := hp i j hij hj; rw [cmpB_zero.mp h] at this; exact this)
 rw [this]
 constructor
 ·rintro ⟨i, hi, h⟩; rw [← cmpB_zero.mp h]; exact getD_mem hi _
 ·intro h; obtain ⟨i, hi, e⟩ := mem_getD h ByteArray.empty; exact ⟨i, hi, cmpB_zero.mpr e⟩
end Go.Proofs.Ytoodahceejdbcaa

/- Rows that rise by their keys: what tells two of them apart, what is under a key, what there is with one more and without one. No program in sight. -/
namespace Go.Proofs.Ytoodahceejdbcaa
set_option linter.unusedVariables false
section
variable {α κ : Type} {lt : κ → κ → Prop} {key : α → κ}
/-- Rising by their keys. -/
def KS (lt : κ → κ → Prop) (key : α → κ) (l : List α) : Prop := l.Pairwise (fun x y => lt (key x) (key y))
theorem KS.nil : KS lt key [] := List.Pairwise.nil
theorem KS.tail {x : α} {l : List α} (h : KS lt key (x :: l)) : KS lt key l := (List.pairwise_cons.mp h).2
theorem KS.head {x : α} {l : List α} (h : KS lt key (x :: l)) {y : α} (hy : y ∈ l) : lt (key x) (key y) := (List.pairwise_cons.mp h).1 y hy
/-- One key, one element. -/
theorem KS.inj (ht : TO lt) : ∀ {l : List α}, KS lt key l → ∀ {x y : α}, x ∈ l → y ∈ l → key x = key y → x = y
 | [], _, x, y, hx, _, _ => by cases hx
 | z :: l, h, x, y, hx, hy, e => by
  rcases List.mem_cons.mp hx with ex | hx
  ·rcases List.mem_cons.mp hy with ey | hy
   ·rw [ex, ey]
   ·have h1 := h.head hy
    rw [← ex, e] at h1
    exact absurd h1 (ht.irrefl _)
  ·rcases List.mem_cons.mp hy with ey | hy
   ·have h1 := h.head hx
    rw [← ey, e] at h1
    exact absurd h1 (ht.irrefl _)
   ·exact KS.inj ht h.tail hx hy e
/-- Two such rows with the same elements are one. -/
theorem KS.unique (ht : TO lt) : ∀ {a b : List α}, KS lt key a → KS lt key b → (∀ x, x ∈ a ↔ x ∈ b) → a = b
 | [], [], _, _, _ => rfl
 | [], y :: b, _, _, he => by have := (he y).mpr (by simp); simp at this
 | x :: a, [], _, _, he => by have := (he x).mp (by simp); simp at this
 | x :: a, y :: b, ha, hb, he => by
  have hxy : x = y := by
   have h1 := (he x).mp (by simp)
   have h2 := (he y).mpr (by simp)
   rw [List.mem_cons] at h1 h2
   rcases h1 with h1 | h1
   ·exact h1
   ·rcases h2 with h2 | h2
    ·exact h2.symm
    ·exact (ht.asymm (ha.head h2) (hb.head h1)).elim
  subst hxy
  have : a = b := KS.unique ht ha.tail hb.tail fun z => by
   have hz := he z
   simp only [List.mem_cons] at hz
   constructor
   ·intro hm
    rcases hz.mp (Or.inr hm) with e | e
    ·subst e; exact (ht.irrefl _ (ha.head hm)).elim
    ·exact e
   ·intro hm
    rcases hz.mpr (Or.inr hm) with e | e
    ·subst e; exact (ht.irrefl _ (hb.head hm)).elim
    ·exact e
  rw [this]
section
variable [DecidableEq κ]
/-- What is under a key. -/
def getM (key : α → κ) (k : κ) : List α → Option α
 | [] => none
 | x :: t => if key x = k then some x else getM key k t
theorem getM_mem (k : κ) : ∀ {l : List α} {x : α}, getM key k l = some x → x ∈ l ∧ key x = k
 | [], x, h => by cases h
 | y :: t, x, h => by
  unfold getM at h
  by_cases e : key y = k
  ·rw [if_pos e] at h
   cases h
   exact ⟨by simp, e⟩
  ·rw [if_neg e] at h
   obtain ⟨a, b⟩ := getM_mem k h
   exact ⟨List.mem_cons_of_mem _ a, b⟩
theorem getM_none (k : κ) : ∀ {l : List α}, getM key k l = none ↔ ∀ x ∈ l, key x ≠ k
 | [] => by simp [getM]
 | y :: t => by
  unfold getM
  by_cases e : key y = k
  ·rw [if_pos e]
   constructor
   ·intro h; cases h
   ·intro h; exact absurd e (h y (by simp))
  ·rw [if_neg e, getM_none k, List.forall_mem_cons]
   exact ⟨fun h => ⟨e, h⟩, fun h => h.2⟩
theorem getM_some (ht : TO lt) {l : List α} (h : KS lt key l) (k : κ) (x : α) : getM key k l = some x ↔ x ∈ l ∧ key x = k := by
 constructor
 ·exact getM_mem k
 ·rintro ⟨hx, e⟩
  cases hg : getM key k l with
  | none => exact absurd e ((getM_none k).mp hg x hx)
  | some y =>
   obtain ⟨a, b⟩ := getM_mem k hg
   rw [h.inj ht a hx (b.trans e.symm)]
/-- Two such rows with the same under each key are one. -/
theorem KS.ext (ht : TO lt) {a b : List α} (ha : KS lt key a) (hb : KS lt key b) (h : ∀ k, getM key k a = getM key k b) : a = b :=
 KS.unique ht ha hb fun x => by
  have h1 := getM_some ht ha (key x) x
  have h2 := getM_some ht hb (key x) x
  rw [h (key x)] at h1
  constructor
  ·intro hx; exact (h2.mp (h1.mpr ⟨hx, rfl⟩)).1
  ·intro hx; exact (h1.mp (h2.mpr ⟨hx, rfl⟩)).1
/-- Without a key. -/
def dropM (key : α → κ) (k : κ) (l : List α) : List α := l.filter fun x => decide (key x ≠ k)
theorem mem_dropM (k : κ) (l : List α) (x : α) : x ∈ dropM key k l ↔ x ∈ l ∧ key x ≠ k := by
 unfold dropM; rw [List.mem_filter, decide_eq_true_eq]
theorem dropM_KS {l : List α} (h : KS lt key l) (k : κ) : KS lt key (dropM key k l) := List.Pairwise.filter _ h
theorem dropM_length (k : κ) (l : List α) : (dropM key k l).length ≤ l.length := List.length_filter_le _ _
theorem getM_dropM (k k' : κ) : ∀ (l : List α), getM key k' (dropM key k l) = if k' = k then none else getM key k' l
 | [] => by simp [dropM, getM]
 | x :: t => by
  have ih := getM_dropM k k' t
  unfold dropM at ih ⊢
  by_cases e : key x = k
  ·rw [List.filter_cons_of_neg (by simp [e]), ih]
   by_cases e2 : k' = k
   ·rw [if_pos e2, if_pos e2]
   ·rw [if_neg e2, if_neg e2, getM, if_neg (by rw [e]; exact fun h => e2 h.symm)]
  ·rw [List.filter_cons_of_pos (by simp [e]), getM, ih]
   by_cases e2 : k' = k
   ·rw [if_pos e2, if_pos e2, if_neg (by rw [e2]; exact e)]
   ·rw [if_neg e2, if_neg e2, getM]
theorem dropM_of_none (k : κ) {l : List α} (h : getM key k l = none) : dropM key k l = l := by
 unfold dropM
 rw [List.filter_eq_self]
 intro x hx
 rw [decide_eq_true_eq]
 exact (getM_none k).mp h x hx
end
/-- An element is put under its key. -/
def putM [DecidableEq κ] (lt : κ → κ → Prop) [DecidableRel lt] (key : α → κ) (v : α) (l : List α) : List α := sink (fun u v => decide (lt (key v) (key u))) v (dropM key (key v) l)
/-- A row that rises by its keys: an element sinks to its place. -/
theorem sinkR_KS (ht : TO lt) {gt : α → α → Bool} (v : α) : ∀ p q, (∀ u, u ∈ p → (gt u v = true ↔ lt (key v) (key u))) → (∀ u ∈ p, key u ≠ key v) → KS lt key (p.reverse ++ q) → (∀ u ∈ q, lt (key v) (key u)) → KS lt key (sinkR gt v p q)
 | [], q, hg, hn, hs, hv => by
  unfold KS at hs ⊢
  rw [sinkR, List.pairwise_cons]; exact ⟨hv, by simpa using hs⟩
 | u :: p, q, hg, hn, hs, hv => by
  unfold sinkR
  split
  ·rename_i hgt
   refine sinkR_KS ht v p (u :: q) (fun u hu => hg u (List.mem_cons_of_mem _ hu)) (fun w hw => hn w (List.mem_cons_of_mem _ hw)) (by simpa using hs) ?_
   intro w hw
   rcases List.mem_cons.mp hw with e | e
   ·subst e; exact (hg w (by simp)).mp hgt
   ·exact hv w e
  ·rename_i hgt
   have hlt : lt (key u) (key v) := by
    rcases ht.tri (key u) (key v) with e | e | e
    ·exact absurd e (hn u (by simp))
    ·exact e
    ·exact absurd ((hg u (by simp)).mpr e) hgt
   unfold KS at hs ⊢
   rw [List.pairwise_append] at hs ⊢
   refine ⟨hs.1, ?_, ?_⟩
   ·rw [List.pairwise_cons]; exact ⟨hv, hs.2.1⟩
   ·intro a ha b hb
    rcases List.mem_cons.mp hb with e | e
    ·subst e
     rw [List.mem_reverse, List.mem_cons] at ha
     rcases ha with e | e
     ·subst e; exact hlt
     ·have h1 := hs.1
      rw [List.reverse_cons, List.pairwise_append] at h1
      exact ht.trans _ _ _ (h1.2.2 a (by simpa using e) u (by simp)) hlt
    ·exact hs.2.2 a ha b e
theorem sink_KS (ht : TO lt) {gt : α → α → Bool} (v : α) (l : List α) (hg : ∀ u, u ∈ l → (gt u v = true ↔ lt (key v) (key u))) (hn : ∀ u ∈ l, key u ≠ key v) (hs : KS lt key l) : KS lt key (sink gt v l) := by
 unfold sink
 exact sinkR_KS ht v _ _ (fun u hu => hg u (by simpa using hu)) (fun u hu => hn u (by simpa using hu)) (by simpa using hs) (by simp)
section
variable [DecidableEq κ] [DecidableRel lt]
theorem mem_putM (v : α) (l : List α) (x : α) : x ∈ putM lt key v l ↔ x = v ∨ (x ∈ l ∧ key x ≠ key v) := by
 unfold putM; rw [mem_sink, mem_dropM]
theorem putM_KS (ht : TO lt) (v : α) {l : List α} (h : KS lt key l) : KS lt key (putM lt key v l) :=
 sink_KS ht v _ (fun u _ => by rw [decide_eq_true_eq]) (fun u hu => ((mem_dropM _ _ _).mp hu).2) (dropM_KS h _)
theorem putM_length (v : α) (l : List α) : (putM lt key v l).length ≤ l.length + 1 := by
 unfold putM; rw [sink_length]; have := dropM_length (key := key) (key v) l; omega
theorem getM_putM (ht : TO lt) (v : α) {l : List α} (h : KS lt key l) (k : κ) : getM key k (putM lt key v l) = if k = key v then some v else getM key k l := by
 have hp := putM_KS ht v h
 by_cases e : k = key v
 ·rw [if_pos e]
  exact (getM_some ht hp k v).mpr ⟨(mem_putM v l v).mpr (Or.inl rfl), e.symm⟩
 ·rw [if_neg e]
  cases hg : getM key k l with
  | none =>
   rw [getM_none] at hg ⊢
   intro x hx
   rcases (mem_putM v l x).mp hx with ex | ⟨hx, _⟩
   ·rw [ex]; exact fun h => e h.symm
   ·exact hg x hx
  | some y =>
   obtain ⟨a, b⟩ := getM_mem k hg
   exact (getM_some ht hp k y).mpr ⟨(mem_putM v l y).mpr (Or.inr ⟨a, by rw [b]; exact e⟩), b⟩
/-- A row that is put together of what is below a key, the key's, and what is above. -/
theorem putM_parts (ht : TO lt) (v : α) {p q : List α} (h : KS lt key (p ++ q)) (hp : ∀ x ∈ p, lt (key x) (key v)) (hq : ∀ x ∈ q, lt (key v) (key x)) : p ++ v :: q = putM lt key v (p ++ q) := by
 refine KS.unique ht ?_ (putM_KS ht v h) fun x => ?_
 ·unfold KS at h ⊢
  rw [List.pairwise_append] at h ⊢
  refine ⟨h.1, List.pairwise_cons.mpr ⟨hq, h.2.1⟩, fun a ha b hb => ?_⟩
  rcases List.mem_cons.mp hb with e | e
  ·subst e; exact hp a ha
  ·exact h.2.2 a ha b e
 ·rw [mem_putM, List.mem_append, List.mem_cons, List.mem_append]
  constructor
  ·rintro (hx | hx | hx)
   ·exact Or.inr ⟨Or.inl hx, fun e => ht.irrefl _ (e ▸ hp x hx)⟩
   ·exact Or.inl hx
   ·exact Or.inr ⟨Or.inr hx, fun e => ht.irrefl _ (e ▸ hq x hx)⟩
  ·rintro (hx | ⟨hx | hx, _⟩)
   ·exact Or.inr (Or.inl hx)
   ·exact Or.inl hx
   ·exact Or.inr (Or.inr hx)
/-- The element under a key gives way to another one. -/
theorem putM_set (ht : TO lt) (v : α) {l : List α} (h : KS lt key l) {i : Nat} (hi : i < l.length) (he : key l[i] = key v) : l.set i v = putM lt key v l := by
 have hk : ∀ j (hj : j < l.length), j ≠ i → key l[j] ≠ key v := by
  intro j hj hne e
  have hpw := List.pairwise_iff_getElem.mp h
  rcases Nat.lt_or_gt_of_ne hne with hlt | hlt
  ·have := hpw j i hj hi hlt
   rw [e, he] at this
   exact ht.irrefl _ this
  ·have := hpw i j hi hj hlt
   rw [e, he] at this
   exact ht.irrefl _ this
 refine KS.unique ht ?_ (putM_KS ht v h) fun x => ?_
 ·unfold KS
  rw [List.pairwise_iff_getElem]
  intro a b ha hb hab
  have ha' : a < l.length := by simpa using ha
  have hb' : b < l.length := by simpa using hb
  have hpw := List.pairwise_iff_getElem.mp h
  rw [List.getElem_set, List.getElem_set]
  by_cases e1 : i = a
  ·subst e1
   rw [if_pos rfl, if_neg (by omega), ← he]
   exact hpw _ _ _ _ hab
  ·rw [if_neg e1]
   by_cases e2 : i = b
   ·subst e2
    rw [if_pos rfl, ← he]
    exact hpw _ _ _ _ hab
   ·rw [if_neg e2]
    exact hpw _ _ _ _ hab
 ·rw [mem_putM]
  constructor
  ·intro hx
   obtain ⟨j, hj, e⟩ := List.mem_iff_getElem.mp hx
   rw [List.getElem_set] at e
   by_cases e1 : i = j
   ·rw [if_pos e1] at e; exact Or.inl e.symm
   ·rw [if_neg e1] at e
    have hj' : j < l.length := by simpa using hj
    refine Or.inr ⟨e ▸ List.getElem_mem _, ?_⟩
    rw [← e]; exact hk j hj' (fun h => e1 h.symm)
  ·rintro (e | ⟨hx, hne⟩)
   ·subst e; exact List.mem_iff_getElem.mpr ⟨i, by simpa using hi, by simp⟩
   ·obtain ⟨j, hj, e⟩ := List.mem_iff_getElem.mp hx
    have hij : i ≠ j := by
     intro e1; subst e1
     rw [e] at he; exact hne he
    exact List.mem_iff_getElem.mpr ⟨j, by simpa using hj, by rw [List.getElem_set, if_neg hij]; exact e⟩
end
end
/-- A search by halves among names finds the place under a key. -/
theorem find_spec {α : Type} {key : α → ByteArray} {l : List α} (d : α) (h : KS ltB key l) (a : ByteArray) :
  (bsB (fun i => cmpB (key (l.getD i d)) a) l.length = true → ∃ hi : bsN (fun i => cmpB (key (l.getD i d)) a) l.length < l.length, key l[bsN (fun i => cmpB (key (l.getD i d)) a) l.length] = a ∧ getM key a l = some l[bsN (fun i => cmpB (key (l.getD i d)) a) l.length]) ∧
  (bsB (fun i => cmpB (key (l.getD i d)) a) l.length = false → getM key a l = none ∧ bsN (fun i => cmpB (key (l.getD i d)) a) l.length ≤ l.length ∧
   (∀ x ∈ l.take (bsN (fun i => cmpB (key (l.getD i d)) a) l.length), ltB (key x) a) ∧ ∀ x ∈ l.drop (bsN (fun i => cmpB (key (l.getD i d)) a) l.length), ltB a (key x)) := by
 generalize hc : (fun i => cmpB (key (l.getD i d)) a) = c
 have hcv : ∀ i (hi : i < l.length), c i = cmpB (key l[i]) a := by
  intro i hi; rw [← hc]; show cmpB (key (l.getD i d)) a = _; rw [getD_eq hi]
 have hpw := List.pairwise_iff_getElem.mp h
 have hm : ∀ i j, i < j → j < l.length → c j < 0 → c i < 0 := by
  intro i j hij hj hcj
  rw [hcv j hj] at hcj
  rw [hcv i (by omega)]
  exact toB.trans _ _ _ (hpw i j (by omega) hj hij) hcj
 have hz : ∀ i j, i < j → j < l.length → c j = 0 → c i < 0 := by
  intro i j hij hj hcj
  rw [hcv j hj] at hcj
  rw [hcv i (by omega), ← cmpB_zero.mp hcj]
  exact hpw i j (by omega) hj hij
 obtain ⟨s1, s2, s3⟩ := bsN_spec c l.length hm
 constructor
 ·intro hb
  have hb' := hb
  unfold bsB at hb'
  rw [Bool.and_eq_true, decide_eq_true_eq, decide_eq_true_eq] at hb'
  have hk : key l[bsN c l.length] = a := by
   have := hb'.2
   rw [hcv _ hb'.1] at this
   exact cmpB_zero.mp this
  exact ⟨hb'.1, hk, (getM_some toB h a _).mpr ⟨List.getElem_mem _, hk⟩⟩
 ·intro hb
  have hb' : ¬ ∃ i, i < l.length ∧ c i = 0 := by
   rw [← bsB_iff c l.length hm hz, hb]; simp
  refine ⟨?_, s1, ?_, ?_⟩
  ·rw [getM_none]
   intro x hx e
   obtain ⟨i, hi, e2⟩ := List.mem_iff_getElem.mp hx
   exact hb' ⟨i, hi, by rw [hcv i hi, e2, e]; exact cmpB_zero.mpr rfl⟩
  ·intro x hx
   obtain ⟨i, hi, e⟩ := List.mem_iff_getElem.mp hx
   rw [List.length_take] at hi
   rw [List.getElem_take] at e
   have := s2 i (by omega)
   rw [hcv i (by omega), e] at this
   exact this
  ·intro x hx
   obtain ⟨i, hi, e⟩ := List.mem_iff_getElem.mp hx
   rw [List.length_drop] at hi
   rw [List.getElem_drop] at e
   have h1 := s3 (bsN c l.length + i) (by omega) (by omega)
   have h2 : c (bsN c l.length + i) ≠ 0 := fun h => hb' ⟨_, by omega, h⟩
   rw [hcv _ (by omega), e] at h1 h2
   exact gtB.mp (by omega)
end Go.Proofs.Ytoodahceejdbcaa

/- Of each of some how far: what tells two apart, one more, one less, the farther and the nearer of each. No program in sight. -/
namespace Go.Proofs.Ytoodahceejdbcaa
set_option linter.unusedVariables false
section
variable {α β : Type}
/-- How an element is read, and made. -/
structure AtS (α : Type) where
 id : α → ByteArray
 n : α → Int
 of : ByteArray → Int → α
 id_of : ∀ a n, id (of a n) = a
 n_of : ∀ a m, n (of a m) = m
 of_eq : ∀ x, of (id x) (n x) = x
theorem AtS.ext (s : AtS α) {x y : α} (h1 : s.id x = s.id y) (h2 : s.n x = s.n y) : x = y := by
 rw [← s.of_eq x, ← s.of_eq y, h1, h2]
/-- How far one is. -/
def ofV (s : AtS α) (l : List α) (a : ByteArray) : Int := match getM s.id a l with | some x => s.n x | none => 0
/-- Rising, and each some way. -/
structure PV (s : AtS α) (l : List α) : Prop where
 ks : KS ltB s.id l
 pos : ∀ x ∈ l, 1 ≤ s.n x
/-- What may be. -/
structure OkV (s : AtS α) (l : List α) : Prop extends PV s l where
 right : ∀ x ∈ l, rightB (s.id x) = true
 le : ∀ x ∈ l, s.n x ≤ 1048576
variable {s : AtS α}
theorem PV.nil : PV s [] := ⟨KS.nil, by simp⟩
theorem OkV.nil : OkV s [] := ⟨PV.nil, by simp, by simp⟩
theorem ofV_nil (a : ByteArray) : ofV s [] a = 0 := rfl
theorem ofV_cons (x : α) (l : List α) (a : ByteArray) : ofV s (x :: l) a = if s.id x = a then s.n x else ofV s l a := by
 unfold ofV
 rw [getM]
 by_cases h : s.id x = a
 ·rw [if_pos h, if_pos h]
 ·rw [if_neg h, if_neg h]
theorem ofV_mem {l : List α} (h : PV s l) {x : α} (hx : x ∈ l) : ofV s l (s.id x) = s.n x := by
 unfold ofV
 rw [(getM_some toB h.ks (s.id x) x).mpr ⟨hx, rfl⟩]
theorem ofV_cases (l : List α) (a : ByteArray) : (∃ x ∈ l, s.id x = a ∧ ofV s l a = s.n x) ∨ ((∀ x ∈ l, s.id x ≠ a) ∧ ofV s l a = 0) := by
 unfold ofV
 cases hg : getM s.id a l with
 | none => exact Or.inr ⟨(getM_none a).mp hg, rfl⟩
 | some x =>
  obtain ⟨p, q⟩ := getM_mem a hg
  exact Or.inl ⟨x, p, q, rfl⟩
theorem PV.nonneg {l : List α} (h : PV s l) (a : ByteArray) : 0 ≤ ofV s l a := by
 rcases ofV_cases (s := s) l a with ⟨x, hx, _, e⟩ | ⟨_, e⟩
 ·rw [e]; have := h.pos x hx; omega
 ·rw [e]; exact Int.le_refl _
theorem OkV.le_of {l : List α} (h : OkV s l) (a : ByteArray) : ofV s l a ≤ 1048576 := by
 rcases ofV_cases (s := s) l a with ⟨x, hx, _, e⟩ | ⟨_, e⟩
 ·rw [e]; exact h.le x hx
 ·rw [e]; omega
theorem OkV.right_of {l : List α} (h : OkV s l) {a : ByteArray} (ha : 0 < ofV s l a) : rightB a = true := by
 rcases ofV_cases (s := s) l a with ⟨x, hx, e1, e⟩ | ⟨_, e⟩
 ·rw [← e1]; exact h.right x hx
 ·omega
theorem PV.pos_iff {l : List α} (h : PV s l) (a : ByteArray) : 0 < ofV s l a ↔ ∃ x ∈ l, s.id x = a := by
 rcases ofV_cases (s := s) l a with ⟨x, hx, e1, e⟩ | ⟨hn, e⟩
 ·rw [e]; exact ⟨fun _ => ⟨x, hx, e1⟩, fun _ => by have := h.pos x hx; omega⟩
 ·rw [e]; exact ⟨fun h => by omega, fun ⟨x, hx, e1⟩ => absurd e1 (hn x hx)⟩
/-- Two of them in which each is as far are one. -/
theorem PV.ext {a b : List α} (ha : PV s a) (hb : PV s b) (h : ∀ i, ofV s a i = ofV s b i) : a = b := by
 have key : ∀ {a b : List α}, PV s a → PV s b → (∀ i, ofV s a i = ofV s b i) → ∀ x, x ∈ a → x ∈ b := by
  intro a b ha hb h x hx
  have h1 := ofV_mem ha hx
  rw [h] at h1
  rcases ofV_cases (s := s) b (s.id x) with ⟨y, hy, e1, e⟩ | ⟨_, e⟩
  ·rw [h1] at e
   rw [s.ext e1.symm e]; exact hy
  ·rw [h1] at e; have := ha.pos x hx; omega
 exact KS.unique toB ha.ks hb.ks fun x => ⟨key ha hb h x, key hb ha (fun i => (h i).symm) x⟩
theorem PV.ext_iff {a b : List α} (ha : PV s a) (hb : PV s b) : a = b ↔ ∀ i, ofV s a i = ofV s b i := ⟨fun h i => by rw [h], PV.ext ha hb⟩
/-- Right, said by how far each is. -/
theorem OkV.of_PV {l : List α} (h : PV s l) (hr : ∀ a, 0 < ofV s l a → rightB a = true) (hl : ∀ a, ofV s l a ≤ 1048576) : OkV s l :=
 ⟨h, fun x hx => hr _ ((h.pos_iff _).mpr ⟨x, hx, rfl⟩), fun x hx => by rw [← ofV_mem h hx]; exact hl _⟩
/-- Each is within. -/
def within (s : AtS α) (t : AtS β) (a : List α) (b : List β) : Prop := ∀ i, ofV s a i ≤ ofV t b i
theorem within_iff {t : AtS β} {a : List α} {b : List β} (ha : PV s a) (hb : PV t b) : within s t a b ↔ ∀ x ∈ a, s.n x ≤ ofV t b (s.id x) := by
 constructor
 ·intro h x hx
  have := h (s.id x)
  rwa [ofV_mem ha hx] at this
 ·intro h i
  rcases ofV_cases (s := s) a i with ⟨x, hx, e1, e⟩ | ⟨_, e⟩
  ·rw [e, ← e1]; exact h x hx
  ·rw [e]; exact hb.nonneg i
/-- Without one. -/
theorem ofV_drop (a i : ByteArray) (l : List α) : ofV s (dropM s.id a l) i = if i = a then 0 else ofV s l i := by
 unfold ofV
 rw [getM_dropM]
 by_cases h : i = a
 ·rw [if_pos h, if_pos h]
 ·rw [if_neg h, if_neg h]
theorem PV.drop {l : List α} (h : PV s l) (a : ByteArray) : PV s (dropM s.id a l) := ⟨dropM_KS h.ks a, fun x hx => h.pos x ((mem_dropM _ _ _).mp hx).1⟩
theorem OkV.drop {l : List α} (h : OkV s l) (a : ByteArray) : OkV s (dropM s.id a l) := ⟨h.toPV.drop a, fun x hx => h.right x ((mem_dropM _ _ _).mp hx).1, fun x hx => h.le x ((mem_dropM _ _ _).mp hx).1⟩
/-- One is just so far. -/
def putV (s : AtS α) (l : List α) (a : ByteArray) (m : Int) : List α := if m < 1 then dropM s.id a l else putM ltB s.id (s.of a m) l
theorem putV_PV {l : List α} (h : PV s l) (a : ByteArray) (m : Int) : PV s (putV s l a m) := by
 unfold putV
 by_cases hm : m < 1
 ·rw [if_pos hm]; exact h.drop a
 ·rw [if_neg hm]
  refine ⟨putM_KS toB _ h.ks, fun x hx => ?_⟩
  rcases (mem_putM _ _ _).mp hx with e | ⟨hx, _⟩
  ·rw [e, s.n_of]; omega
  ·exact h.pos x hx
theorem ofV_put {l : List α} (h : PV s l) (a i : ByteArray) (m : Int) : ofV s (putV s l a m) i = if i = a then (if m < 1 then 0 else m) else ofV s l i := by
 unfold putV
 by_cases hm : m < 1
 ·rw [if_pos hm, if_pos hm, ofV_drop]
 ·rw [if_neg hm, if_neg hm]
  unfold ofV
  rw [getM_putM toB _ h.ks, s.id_of]
  by_cases e : i = a
  ·rw [if_pos e, if_pos e]; exact s.n_of _ _
  ·rw [if_neg e, if_neg e]
theorem putV_length (l : List α) (a : ByteArray) (m : Int) : (putV s l a m).length ≤ l.length + 1 := by
 unfold putV
 split
 ·have := dropM_length (key := s.id) a l; omega
 ·exact putM_length _ _
/-- One is so far at least. -/
def setV (s : AtS α) (l : List α) (a : ByteArray) (m : Int) : List α := if rightB a = true ∧ 1 ≤ m then putV s l a (max (ofV s l a) (min m 1048576)) else l
theorem ofV_set {l : List α} (h : PV s l) (a i : ByteArray) (m : Int) : ofV s (setV s l a m) i = if i = a ∧ rightB a = true ∧ 1 ≤ m then max (ofV s l a) (min m 1048576) else ofV s l i := by
 unfold setV
 by_cases hc : rightB a = true ∧ 1 ≤ m
 ·rw [if_pos hc, ofV_put h]
  have := h.nonneg a
  by_cases e : i = a
  ·rw [if_pos e, if_neg (show ¬ (max (ofV s l a) (min m 1048576) < 1) by omega), if_pos ⟨e, hc⟩]
  ·rw [if_neg e, if_neg (fun h => e h.1)]
 ·rw [if_neg hc, if_neg (fun h => hc h.2)]
theorem setV_PV {l : List α} (h : PV s l) (a : ByteArray) (m : Int) : PV s (setV s l a m) := by
 unfold setV
 split
 ·exact putV_PV h _ _
 ·exact h
theorem setV_ok {l : List α} (h : OkV s l) (a : ByteArray) (m : Int) : OkV s (setV s l a m) := by
 refine OkV.of_PV (setV_PV h.toPV a m) (fun i hi => ?_) fun i => ?_
 ·rw [ofV_set h.toPV] at hi
  by_cases hc : i = a ∧ rightB a = true ∧ 1 ≤ m
  ·rw [hc.1]; exact hc.2.1
  ·rw [if_neg hc] at hi; exact h.right_of hi
 ·rw [ofV_set h.toPV]
  have h1 := h.le_of a
  have h2 := h.le_of i
  split <;> omega
theorem setV_length (l : List α) (a : ByteArray) (m : Int) : (setV s l a m).length ≤ l.length + 1 := by
 unfold setV
 split
 ·exact putV_length _ _ _
 ·omega
/-- The farther of each: one behind the other. -/
def joinV (s : AtS α) (t : AtS β) : List α → List β → List α
 | out, [] => out
 | out, x :: b => joinV s t (putV s out (t.id x) (max (ofV s out (t.id x)) (t.n x))) b
theorem joinV_spec (s : AtS α) (t : AtS β) : ∀ (b : List β) (out : List α), PV s out → PV t b → PV s (joinV s t out b) ∧ (∀ i, ofV s (joinV s t out b) i = max (ofV s out i) (ofV t b i)) ∧ (joinV s t out b).length ≤ out.length + b.length
 | [], out, h, hb => by
  refine ⟨h, fun i => ?_, by simp [joinV]⟩
  have := h.nonneg i
  rw [ofV_nil, joinV]; omega
 | x :: b, out, h, hb => by
  have hx := hb.pos x (by simp)
  obtain ⟨p, q, r⟩ := joinV_spec s t b _ (putV_PV h (t.id x) (max (ofV s out (t.id x)) (t.n x))) ⟨hb.ks.tail, fun y hy => hb.pos y (by simp [hy])⟩
  rw [joinV]
  refine ⟨p, fun i => ?_, ?_⟩
  ·rw [q, ofV_put h, ofV_cons]
   by_cases e : i = t.id x
   ·have e0 : ofV t b i = 0 := by
     rcases ofV_cases (s := t) b i with ⟨y, hy, e1, _⟩ | ⟨_, e2⟩
     ·have := hb.ks.head hy
      rw [e1, e] at this
      exact absurd this (toB.irrefl _)
     ·exact e2
    rw [if_pos e, if_pos e.symm, e0, if_neg (by omega), e]; omega
   ·rw [if_neg e, if_neg (fun h => e h.symm)]
  ·have := putV_length (s := s) out (t.id x) (max (ofV s out (t.id x)) (t.n x))
   simp only [List.length_cons]; omega
/-- The nearer of each, in line. -/
def meetV (s : AtS α) (t : AtS β) (b : List β) : List α → List α
 | [] => []
 | x :: a => if min (s.n x) (ofV t b (s.id x)) > 0 then s.of (s.id x) (min (s.n x) (ofV t b (s.id x))) :: meetV s t b a else meetV s t b a
theorem meetV_mem (s : AtS α) (t : AtS β) (b : List β) : ∀ (a : List α) (y : α), y ∈ meetV s t b a → ∃ x ∈ a, s.id y = s.id x ∧ s.n y = min (s.n x) (ofV t b (s.id x)) ∧ 0 < s.n y
 | [], y, h => by simp [meetV] at h
 | x :: a, y, h => by
  rw [meetV] at h
  by_cases hc : min (s.n x) (ofV t b (s.id x)) > 0
  ·rw [if_pos hc] at h
   rcases List.mem_cons.mp h with e | h
   ·exact ⟨x, by simp, by rw [e, s.id_of], by rw [e, s.n_of], by rw [e, s.n_of]; exact hc⟩
   ·obtain ⟨z, hz, r⟩ := meetV_mem s t b a y h
    exact ⟨z, by simp [hz], r⟩
  ·rw [if_neg hc] at h
   obtain ⟨z, hz, r⟩ := meetV_mem s t b a y h
   exact ⟨z, by simp [hz], r⟩
theorem meetV_spec (s : AtS α) (t : AtS β) {b : List β} (hb : PV t b) : ∀ (a : List α), PV s a → PV s (meetV s t b a) ∧ (∀ i, ofV s (meetV s t b a) i = min (ofV s a i) (ofV t b i)) ∧ (meetV s t b a).length ≤ a.length
 | [], h => by
  refine ⟨PV.nil, fun i => ?_, by simp [meetV]⟩
  have := hb.nonneg i
  rw [meetV, ofV_nil]; omega
 | x :: a, h => by
  have hx := h.pos x (by simp)
  obtain ⟨p, q, r⟩ := meetV_spec s t hb a ⟨h.ks.tail, fun y hy => h.pos y (by simp [hy])⟩
  have e0 : ofV s a (s.id x) = 0 := by
   rcases ofV_cases (s := s) a (s.id x) with ⟨y, hy, e1, _⟩ | ⟨_, e2⟩
   ·have := h.ks.head hy
    rw [e1] at this
    exact absurd this (toB.irrefl _)
   ·exact e2
  have hbn := hb.nonneg (s.id x)
  rw [meetV]
  by_cases hc : min (s.n x) (ofV t b (s.id x)) > 0
  ·rw [if_pos hc]
   refine ⟨⟨List.pairwise_cons.mpr ⟨fun y hy => ?_, p.ks⟩, fun y hy => ?_⟩, fun i => ?_, by simp only [List.length_cons]; omega⟩
   ·obtain ⟨z, hz, e, _⟩ := meetV_mem s t b a y hy
    rw [s.id_of, e]; exact h.ks.head hz
   ·rcases List.mem_cons.mp hy with e | hy
    ·rw [e, s.n_of]; omega
    ·exact p.pos y hy
   ·rw [ofV_cons, ofV_cons, s.id_of, s.n_of, q]
    by_cases e : s.id x = i
    ·rw [if_pos e, if_pos e, e]
    ·rw [if_neg e, if_neg e]
  ·rw [if_neg hc]
   refine ⟨p, fun i => ?_, by simp only [List.length_cons]; omega⟩
   rw [q, ofV_cons]
   by_cases e : s.id x = i
   ·rw [if_pos e, ← e, e0]; omega
   ·rw [if_neg e]
/-- The nearer of each, one put behind the other. -/
def meetP (s : AtS α) (t : AtS β) (b : List β) : List α → List α → List α
 | out, [] => out
 | out, x :: a => meetP s t b (putV s out (s.id x) (min (s.n x) (ofV t b (s.id x)))) a
theorem meetP_spec (s : AtS α) (t : AtS β) {b : List β} (hb : PV t b) : ∀ (a : List α) (out : List α), PV s out → PV s a → (∀ x ∈ a, ofV s out (s.id x) = 0) → PV s (meetP s t b out a) ∧ (∀ i, ofV s (meetP s t b out a) i = max (ofV s out i) (min (ofV s a i) (ofV t b i))) ∧ (meetP s t b out a).length ≤ out.length + a.length
 | [], out, ho, h, h0 => by
  refine ⟨ho, fun i => ?_, by simp [meetP]⟩
  have := hb.nonneg i
  have := ho.nonneg i
  rw [meetP, ofV_nil]; omega
 | x :: a, out, ho, h, h0 => by
  have hx := h.pos x (by simp)
  have hbn := hb.nonneg (s.id x)
  have e0 := h0 x (by simp)
  obtain ⟨p, q, r⟩ := meetP_spec s t hb a _ (putV_PV ho (s.id x) (min (s.n x) (ofV t b (s.id x)))) ⟨h.ks.tail, fun y hy => h.pos y (by simp [hy])⟩ (fun y hy => by
   have hne : s.id y ≠ s.id x := by
    intro e
    have := h.ks.head hy
    rw [e] at this
    exact toB.irrefl _ this
   rw [ofV_put ho, if_neg hne]
   exact h0 y (by simp [hy]))
  rw [meetP]
  refine ⟨p, fun i => ?_, ?_⟩
  ·rw [q, ofV_put ho, ofV_cons]
   by_cases e : i = s.id x
   ·have e1 : ofV s a i = 0 := by
     rcases ofV_cases (s := s) a i with ⟨y, hy, e1, _⟩ | ⟨_, e2⟩
     ·have := h.ks.head hy
      rw [e1, e] at this
      exact absurd this (toB.irrefl _)
     ·exact e2
    rw [if_pos e, if_pos e.symm, e1, e, e0]
    split <;> omega
   ·rw [if_neg e, if_neg (fun h => e h.symm)]
  ·have := putV_length (s := s) out (s.id x) (min (s.n x) (ofV t b (s.id x)))
   simp only [List.length_cons]; omega
/-- The same in other words. -/
def convV (s : AtS α) (t : AtS β) (l : List α) : List β := l.map fun x => t.of (s.id x) (s.n x)
theorem ofV_conv (s : AtS α) (t : AtS β) (i : ByteArray) : ∀ l : List α, ofV t (convV s t l) i = ofV s l i
 | [] => rfl
 | x :: l => by
  have := ofV_conv s t i l
  unfold convV at this ⊢
  rw [List.map_cons, ofV_cons, ofV_cons, t.id_of, t.n_of, this]
theorem convV_PV (s : AtS α) (t : AtS β) {l : List α} (h : PV s l) : PV t (convV s t l) := by
 refine ⟨?_, fun y hy => ?_⟩
 ·unfold KS convV
  rw [List.pairwise_map]
  exact h.ks.imp fun {x y} hxy => by rw [t.id_of, t.id_of]; exact hxy
 ·obtain ⟨x, hx, e⟩ := List.mem_map.mp hy
  rw [← e, t.n_of]; exact h.pos x hx
theorem convV_ok (s : AtS α) (t : AtS β) {l : List α} (h : OkV s l) : OkV t (convV s t l) := by
 refine OkV.of_PV (convV_PV s t h.toPV) (fun i hi => ?_) fun i => ?_
 ·rw [ofV_conv] at hi; exact h.right_of hi
 ·rw [ofV_conv]; exact h.le_of i
theorem convV_length (s : AtS α) (t : AtS β) (l : List α) : (convV s t l).length = l.length := by simp [convV]
theorem convV_back (s : AtS α) (t : AtS β) (l : List α) : convV t s (convV s t l) = l := by
 unfold convV
 rw [List.map_map]
 refine Eq.trans (List.map_congr_left fun x _ => ?_) (List.map_id l)
 show s.of (t.id (t.of (s.id x) (s.n x))) (t.n (t.of (s.id x) (s.n x))) = x
 rw [t.id_of, t.n_of, s.of_eq]
def afterB : Option ByteArray → ByteArray → Bool
 | none, _ => true
 | some a, b => decide (cmpB a b < 0)
/-- What may be, asked of any list: in line behind one. -/
def rightVB (s : AtS α) : Option ByteArray → List α → Bool
 | _, [] => true
 | p, x :: l => rightB (s.id x) && decide (1 ≤ s.n x) && decide (s.n x ≤ 1048576) && afterB p (s.id x) && rightVB s (some (s.id x)) l
theorem rightVB_ok : ∀ (l : List α) (p : Option ByteArray), OkV s l → (∀ a, p = some a → ∀ x ∈ l, ltB a (s.id x)) → rightVB s p l = true
 | [], _, _, _ => rfl
 | x :: l, p, h, hp => by
  have h1 : OkV s l := ⟨⟨h.ks.tail, fun y hy => h.pos y (by simp [hy])⟩, fun y hy => h.right y (by simp [hy]), fun y hy => h.le y (by simp [hy])⟩
  have h2 : afterB p (s.id x) = true := by
   cases p with
   | none => rfl
   | some a => exact decide_eq_true (hp a rfl x (by simp))
  rw [rightVB, h.right x (by simp), decide_eq_true (h.pos x (by simp)), decide_eq_true (h.le x (by simp)), h2, rightVB_ok l (some (s.id x)) h1 fun a ha y hy => by cases ha; exact h.ks.head hy]
  rfl
theorem rightVB_conv (s : AtS α) (t : AtS β) : ∀ (l : List α) (p : Option ByteArray), rightVB t p (convV s t l) = rightVB s p l
 | [], _ => rfl
 | x :: l, p => by
  have := rightVB_conv s t l (some (s.id x))
  unfold convV at this ⊢
  rw [List.map_cons, rightVB, rightVB, t.id_of, t.n_of, this]
end
end Go.Proofs.Ytoodahceejdbcaa

/- Rows of a name and how far each of some is: what tells two apart, one more, one less, both, and how far all are. No program in sight. -/
namespace Go.Proofs.Ytoodahceejdbcaa
set_option linter.unusedVariables false
section
variable {ρ σ α β : Type}
/-- How a row is read, and made. -/
structure RoS (ρ α : Type) where
 id : ρ → ByteArray
 v : ρ → List α
 of : ByteArray → List α → ρ
 id_of : ∀ a l, id (of a l) = a
 v_of : ∀ a l, v (of a l) = l
 of_eq : ∀ x, of (id x) (v x) = x
/-- One's. -/
def ofR (t : RoS ρ α) (m : List ρ) (a : ByteArray) : List α := match getM t.id a m with | some x => t.v x | none => []
/-- What may be. -/
structure OkM (t : RoS ρ α) (s : AtS α) (m : List ρ) : Prop where
 ks : KS ltB t.id m
 ok : ∀ x ∈ m, OkV s (t.v x)
 ne : ∀ x ∈ m, t.v x ≠ []
 right : ∀ x ∈ m, rightB (t.id x) = true
variable {t : RoS ρ α} {s : AtS α} {t2 : RoS σ β} {s2 : AtS β}
theorem OkM.nil : OkM t s [] := ⟨KS.nil, by simp, by simp, by simp⟩
theorem ofR_nil (a : ByteArray) : ofR t [] a = [] := rfl
theorem ofR_cons (x : ρ) (l : List ρ) (a : ByteArray) : ofR t (x :: l) a = if t.id x = a then t.v x else ofR t l a := by
 unfold ofR
 rw [getM]
 by_cases h : t.id x = a
 ·rw [if_pos h, if_pos h]
 ·rw [if_neg h, if_neg h]
theorem ofR_cases (m : List ρ) (a : ByteArray) : (∃ x ∈ m, t.id x = a ∧ ofR t m a = t.v x ∧ getM t.id a m = some x) ∨ ((∀ x ∈ m, t.id x ≠ a) ∧ ofR t m a = [] ∧ getM t.id a m = none) := by
 unfold ofR
 cases hg : getM t.id a m with
 | none => exact Or.inr ⟨(getM_none a).mp hg, rfl, rfl⟩
 | some x =>
  obtain ⟨p, q⟩ := getM_mem a hg
  exact Or.inl ⟨x, p, q, rfl, rfl⟩
theorem OkM.ofR {m : List ρ} (h : OkM t s m) (a : ByteArray) : OkV s (ofR t m a) := by
 rcases ofR_cases (t := t) m a with ⟨x, hx, _, e, _⟩ | ⟨_, e, _⟩
 ·rw [e]; exact h.ok x hx
 ·rw [e]; exact OkV.nil
theorem OkM.right_of {m : List ρ} (h : OkM t s m) {a : ByteArray} (ha : Go.Proofs.Ytoodahceejdbcaa.ofR t m a ≠ []) : rightB a = true := by
 rcases ofR_cases (t := t) m a with ⟨x, hx, e1, e, _⟩ | ⟨_, e, _⟩
 ·rw [← e1]; exact h.right x hx
 ·exact absurd e ha
/-- How far one says that another one is. -/
def atM (t : RoS ρ α) (s : AtS α) (m : List ρ) (a i : ByteArray) : Int := ofV s (ofR t m a) i
theorem OkM.nonneg {m : List ρ} (h : OkM t s m) (a i : ByteArray) : 0 ≤ atM t s m a i := (h.ofR a).nonneg i
theorem atM_nil (a i : ByteArray) : atM t s [] a i = 0 := rfl
theorem OkV.ne_pos {l : List α} (h : PV s l) (hn : l ≠ []) : ∃ i, 0 < ofV s l i := by
 cases l with
 | nil => exact absurd rfl hn
 | cons x l => exact ⟨s.id x, (h.pos_iff _).mpr ⟨x, by simp, rfl⟩⟩
/-- Two of them that say the same are one. -/
theorem OkM.ext {a b : List ρ} (ha : OkM t s a) (hb : OkM t s b) (h : ∀ i j, atM t s a i j = atM t s b i j) : a = b := by
 refine KS.ext toB ha.ks hb.ks fun k => ?_
 have hv : Go.Proofs.Ytoodahceejdbcaa.ofR t a k = Go.Proofs.Ytoodahceejdbcaa.ofR t b k := PV.ext (ha.ofR k).toPV (hb.ofR k).toPV (h k)
 rcases ofR_cases (t := t) a k with ⟨x, hx, e1, e2, e3⟩ | ⟨_, e2, e3⟩
 ·rcases ofR_cases (t := t) b k with ⟨y, hy, f1, f2, f3⟩ | ⟨_, f2, f3⟩
  ·rw [e3, f3, ← t.of_eq x, ← t.of_eq y, e1, f1, ← e2, ← f2, hv]
  ·exact absurd (by rw [← e2, hv, f2]) (ha.ne x hx)
 ·rcases ofR_cases (t := t) b k with ⟨y, hy, f1, f2, f3⟩ | ⟨_, f2, f3⟩
  ·exact absurd (by rw [← f2, ← hv, e2]) (hb.ne y hy)
  ·rw [e3, f3]
/-- One's is just this. -/
theorem OkM.put {m : List ρ} (h : OkM t s m) {a : ByteArray} (ha : rightB a = true) {w : List α} (hw : OkV s w) (hn : w ≠ []) : OkM t s (putM ltB t.id (t.of a w) m) := by
 refine ⟨putM_KS toB _ h.ks, fun x hx => ?_, fun x hx => ?_, fun x hx => ?_⟩ <;> rcases (mem_putM _ _ _).mp hx with e | ⟨hx, _⟩
 ·rw [e, t.v_of]; exact hw
 ·exact h.ok x hx
 ·rw [e, t.v_of]; exact hn
 ·exact h.ne x hx
 ·rw [e, t.id_of]; exact ha
 ·exact h.right x hx
theorem ofR_put {m : List ρ} (h : KS ltB t.id m) (a : ByteArray) (w : List α) (b : ByteArray) : ofR t (putM ltB t.id (t.of a w) m) b = if b = a then w else ofR t m b := by
 unfold ofR
 rw [getM_putM toB _ h, t.id_of]
 by_cases e : b = a
 ·rw [if_pos e, if_pos e]; exact t.v_of a w
 ·rw [if_neg e, if_neg e]
theorem OkM.drop {m : List ρ} (h : OkM t s m) (a : ByteArray) : OkM t s (dropM t.id a m) :=
 ⟨dropM_KS h.ks a, fun x hx => h.ok x ((mem_dropM _ _ _).mp hx).1, fun x hx => h.ne x ((mem_dropM _ _ _).mp hx).1, fun x hx => h.right x ((mem_dropM _ _ _).mp hx).1⟩
theorem ofR_drop (a b : ByteArray) (m : List ρ) : ofR t (dropM t.id a m) b = if b = a then [] else ofR t m b := by
 unfold ofR
 rw [getM_dropM]
 by_cases e : b = a
 ·rw [if_pos e, if_pos e]
 ·rw [if_neg e, if_neg e]
/-- What r is, when one is put. -/
structure IsPut (t : RoS ρ α) (s : AtS α) (m : List ρ) (a : ByteArray) (f : ByteArray → Int) (r : List ρ) : Prop where
 ok : OkM t s r
 at_ : ∀ b i, atM t s r b i = if b = a ∧ rightB a = true then max (atM t s m a i) (f i) else atM t s m b i
 len : r.length ≤ m.length + 1
/-- The farther of both is put, if there is any. -/
theorem isPut_put {m : List ρ} (h : OkM t s m) (a : ByteArray) {f : ByteArray → Int} {w : List α} (hw : OkV s w) (hf : ∀ i, ofV s w i = max (atM t s m a i) (f i)) (ha : rightB a = true) (hn : w ≠ []) : IsPut t s m a f (putM ltB t.id (t.of a w) m) := by
 refine ⟨h.put ha hw hn, fun b i => ?_, putM_length _ _⟩
 unfold atM
 rw [ofR_put h.ks]
 by_cases e : b = a
 ·rw [if_pos e, if_pos ⟨e, ha⟩, hf]; rfl
 ·rw [if_neg e, if_neg (fun h => e h.1)]
theorem isPut_none {m : List ρ} (h : OkM t s m) (a : ByteArray) {f : ByteArray → Int} {w : List α} (hw : OkV s w) (hf : ∀ i, ofV s w i = max (atM t s m a i) (f i)) (hn : ¬ (rightB a = true ∧ w ≠ [])) : IsPut t s m a f m := by
 refine ⟨h, fun b i => ?_, Nat.le_succ _⟩
 by_cases e : b = a ∧ rightB a = true
 ·rw [if_pos e, ← hf, e.1]
  have hw0 : w = [] := by
   by_cases hh : w = []
   ·exact hh
   ·exact absurd ⟨e.2, hh⟩ hn
  have h0 := h.nonneg a i
  have h1 := hf i
  rw [hw0, ofV_nil] at h1 ⊢
  omega
 ·rw [if_neg e]
/-- What r is: what both say. -/
structure IsMerge (t : RoS ρ α) (s : AtS α) (m : List ρ) (f : ByteArray → ByteArray → Int) (r : List ρ) : Prop where
 ok : OkM t s r
 at_ : ∀ b i, atM t s r b i = max (atM t s m b i) (f b i)
theorem isMerge_nil {m : List ρ} (h : OkM t s m) : IsMerge t s m (atM t2 s2 []) m := by
 refine ⟨h, fun b i => ?_⟩
 have := h.nonneg b i
 rw [atM_nil]; omega
theorem OkM.tail {x : ρ} {m : List ρ} (h : OkM t s (x :: m)) : OkM t s m := ⟨h.ks.tail, fun y hy => h.ok y (by simp [hy]), fun y hy => h.ne y (by simp [hy]), fun y hy => h.right y (by simp [hy])⟩
theorem OkM.sub {m m' : List ρ} (h : OkM t s m) (hs : m'.Sublist m) : OkM t s m' := ⟨List.Pairwise.sublist hs h.ks, fun y hy => h.ok y (hs.mem hy), fun y hy => h.ne y (hs.mem hy), fun y hy => h.right y (hs.mem hy)⟩
theorem isMerge_step {m : List ρ} {x : σ} {b : List σ} {r r2 : List ρ} (hb : OkM t2 s2 (x :: b)) (hm : OkM t s m) (h1 : IsPut t s m (t2.id x) (ofV s2 (t2.v x)) r) (h2 : IsMerge t s r (atM t2 s2 b) r2) : IsMerge t s m (atM t2 s2 (x :: b)) r2 := by
 refine ⟨h2.ok, fun c i => ?_⟩
 rw [h2.at_, h1.at_]
 have e : atM t2 s2 (x :: b) c i = if t2.id x = c then ofV s2 (t2.v x) i else atM t2 s2 b c i := by
  unfold atM
  rw [ofR_cons]
  by_cases e : t2.id x = c
  ·rw [if_pos e, if_pos e]
  ·rw [if_neg e, if_neg e]
 rw [e]
 by_cases hc : t2.id x = c
 ·rw [if_pos ⟨hc.symm, hb.right x (by simp)⟩, if_pos hc]
  have e0 : atM t2 s2 b c i = 0 := by
   unfold atM
   rcases ofR_cases (t := t2) b c with ⟨y, hy, e1, _, _⟩ | ⟨_, e2, _⟩
   ·have := hb.ks.head hy
    rw [e1, hc] at this
    exact absurd this (toB.irrefl _)
   ·rw [e2]; rfl
  have := (hb.ok x (by simp)).nonneg i
  have := hm.nonneg c i
  rw [e0, hc]; omega
 ·rw [if_neg (fun h => hc h.1.symm), if_neg hc]
/-- How far all of some are. -/
structure IsStable (s : AtS α) (f : ByteArray → ByteArray → Int) (l : List ByteArray) (r : List α) : Prop where
 ok : OkV s r
 le : ∀ i n, 0 < n → l ≠ [] → (n ≤ ofV s r i ↔ ∀ a ∈ l, n ≤ f a i)
 nil : l = [] → r = []
theorem IsStable.ext {r r2 : List α} {f : ByteArray → ByteArray → Int} {l : List ByteArray} (h : IsStable s f l r) (h2 : IsStable s f l r2) : r = r2 := by
 by_cases hl : l = []
 ·rw [h.nil hl, h2.nil hl]
 ·refine PV.ext h.ok.toPV h2.ok.toPV fun i => ?_
  have a1 := h.ok.nonneg i
  have a2 := h2.ok.nonneg i
  by_cases p : 0 < ofV s r i
  ·have e := (h2.le i _ p hl).mpr ((h.le i _ p hl).mp (Int.le_refl _))
   have e2 := (h.le i (ofV s r2 i) (by omega) hl).mpr ((h2.le i _ (by omega) hl).mp (Int.le_refl _))
   omega
  ·by_cases p2 : 0 < ofV s r2 i
   ·have e := (h.le i _ p2 hl).mpr ((h2.le i _ p2 hl).mp (Int.le_refl _))
    omega
   ·omega
theorem isStable_one {f : ByteArray → ByteArray → Int} {a : ByteArray} {r : List α} (h : OkV s r) (hf : ∀ i, ofV s r i = f a i) : IsStable s f [a] r :=
 ⟨h, fun i n _ _ => by rw [hf]; simp, fun h => by cases h⟩
theorem isStable_snoc {f : ByteArray → ByteArray → Int} {l : List ByteArray} {a : ByteArray} {r r2 : List α} (h : IsStable s f l r) (hl : l ≠ []) (h2 : OkV s r2) (hf : ∀ i, ofV s r2 i = min (ofV s r i) (f a i)) : IsStable s f (l ++ [a]) r2 := by
 refine ⟨h2, fun i n hn _ => ?_, fun h => by simp at h⟩
 rw [hf]
 have := h.le i n hn hl
 constructor
 ·intro hm b hb
  rcases List.mem_append.mp hb with hb | hb
  ·exact this.mp (by omega) b hb
  ·rw [List.mem_singleton.mp hb]; omega
 ·intro hm
  have h1 := this.mpr fun b hb => hm b (by simp [hb])
  have h3 := hm a (by simp)
  omega
/-- The same in other words. -/
def convM (t : RoS ρ α) (s : AtS α) (t2 : RoS σ β) (s2 : AtS β) (m : List ρ) : List σ := m.map fun x => t2.of (t.id x) (convV s s2 (t.v x))
theorem ofR_conv (a : ByteArray) : ∀ m : List ρ, ofR t2 (convM t s t2 s2 m) a = convV s s2 (ofR t m a)
 | [] => rfl
 | x :: m => by
  have := ofR_conv a m
  unfold convM at this ⊢
  rw [List.map_cons, ofR_cons, ofR_cons, t2.id_of, t2.v_of, this]
  by_cases e : t.id x = a
  ·rw [if_pos e, if_pos e]
  ·rw [if_neg e, if_neg e]
theorem atM_conv (m : List ρ) (a i : ByteArray) : atM t2 s2 (convM t s t2 s2 m) a i = atM t s m a i := by
 unfold atM
 rw [ofR_conv, ofV_conv]
theorem convM_ok {m : List ρ} (h : OkM t s m) : OkM t2 s2 (convM t s t2 s2 m) := by
 refine ⟨?_, fun y hy => ?_, fun y hy => ?_, fun y hy => ?_⟩
 ·unfold KS convM
  rw [List.pairwise_map]
  exact h.ks.imp fun {x y} hxy => by rw [t2.id_of, t2.id_of]; exact hxy
 ·obtain ⟨x, hx, e⟩ := List.mem_map.mp hy
  rw [← e, t2.v_of]; exact convV_ok _ _ (h.ok x hx)
 ·obtain ⟨x, hx, e⟩ := List.mem_map.mp hy
  rw [← e, t2.v_of]
  intro hn
  exact h.ne x hx (List.map_eq_nil_iff.mp hn)
 ·obtain ⟨x, hx, e⟩ := List.mem_map.mp hy
  rw [← e, t2.id_of]; exact h.right x hx
theorem convM_length (m : List ρ) : (convM t s t2 s2 m).length = m.length := by simp [convM]
theorem convM_back (m : List ρ) : convM t2 s2 t s (convM t s t2 s2 m) = m := by
 unfold convM
 rw [List.map_map]
 refine Eq.trans (List.map_congr_left fun x _ => ?_) (List.map_id m)
 show t.of (t2.id (t2.of (t.id x) (convV s s2 (t.v x)))) (convV s2 s (t2.v (t2.of (t.id x) (convV s s2 (t.v x))))) = x
 rw [t2.id_of, t2.v_of, convV_back, t.of_eq]
/-- Said in the words of the other one, it is the other one. -/
theorem conv_is {x : List ρ} {y : List σ} (hx : OkM t s x) (hy : OkM t2 s2 y) (h : ∀ a i, atM t s x a i = atM t2 s2 y a i) : convM t s t2 s2 x = y :=
 OkM.ext (convM_ok hx) hy fun a i => by rw [atM_conv]; exact h a i
/-- What may be, asked of any list: in line behind one. -/
def rightMB (t : RoS ρ α) (s : AtS α) : Option ByteArray → List ρ → Bool
 | _, [] => true
 | p, x :: l => rightB (t.id x) && rightVB s none (t.v x) && !(t.v x).isEmpty && afterB p (t.id x) && rightMB t s (some (t.id x)) l
theorem rightMB_conv : ∀ (l : List ρ) (p : Option ByteArray), rightMB t2 s2 p (convM t s t2 s2 l) = rightMB t s p l
 | [], _ => rfl
 | x :: l, p => by
  have := rightMB_conv l (some (t.id x))
  unfold convM at this ⊢
  have he : (convV s s2 (t.v x)).isEmpty = (t.v x).isEmpty := by unfold convV; cases t.v x <;> rfl
  rw [List.map_cons, rightMB, rightMB, t2.id_of, t2.v_of, this, rightVB_conv, he]
theorem rightMB_ok : ∀ (l : List ρ) (p : Option ByteArray), OkM t s l → (∀ a, p = some a → ∀ x ∈ l, ltB a (t.id x)) → rightMB t s p l = true
 | [], _, _, _ => rfl
 | x :: l, p, h, hp => by
  have h2 : afterB p (t.id x) = true := by
   cases p with
   | none => rfl
   | some a => exact decide_eq_true (hp a rfl x (by simp))
  have h3 : (t.v x).isEmpty = false := by
   have := h.ne x (by simp)
   cases hv : t.v x with
   | nil => exact absurd hv this
   | cons a b => rfl
  rw [rightMB, h.right x (by simp), rightVB_ok (t.v x) none (h.ok x (by simp)) (fun a ha => by cases ha), h3, h2, rightMB_ok l (some (t.id x)) h.tail fun a ha y hy => by cases ha; exact h.ks.head hy]
  rfl
end
end Go.Proofs.Ytoodahceejdbcaa

/- What the printed functions of id and of its reference come to, in plain words. -/
namespace Go.Proofs.Ytoodahceejdbcaa.Pure
open Go.RowKit Go.Proofs.Ytoodahceejdbcaa Go.Proofs.Ytoodahceejdbcaa.P Go.Proofs.YtoodahceejdbcaaW.PrintWords Go.Proofs.YtoodahceejdbcaaW.PrintLast
set_option linter.unusedVariables false
set_option linter.unusedSimpArgs false
theorem bt_get (a : ByteArray) (n : Nat) (h : n < a.size) : bt a (n : Int) = ((a.data.toList.getD n 0).toNat : Int) := by
 unfold bt
 have e : ((n : Int)).toNat = n := Int.toNat_natCast n
 simp only [e, dif_pos h]
 have h2 : n < a.data.toList.length := by simpa using h
 have : a.data.toList.getD n 0 = a.data.toList[n]'h2 := by simp [List.getD, List.getElem?_eq_getElem h2]
 rw [this]; simp; rfl
theorem size_list (a : ByteArray) : a.size = a.data.toList.length := by simp
theorem drop_all (l : List UInt8) (n : Nat) (h : n < l.length) (p : UInt8 → Bool) : (l.drop n).all p = (p (l.getD n 0) && (l.drop (n + 1)).all p) := by
 rw [List.drop_eq_getElem_cons h, List.all_cons]
 simp [List.getD, List.getElem?_eq_getElem h]
theorem ref_right_loop (a : ByteArray) (hs : a.size ≤ 6) (d : Nat) : ∀ (k n : Nat), a.size - n = d → n ≤ a.size → d < k →
  cenotaphref01_Right.l0 k a (n : Int) = some ((a.data.toList.drop n).all okDigit) := by
 induction d with
 | zero =>
  intro k n hd hn hk
  obtain ⟨k, rfl⟩ : ∃ m, k = m + 1 := ⟨k - 1, by omega⟩
  simp only [cenotaphref01_Right.l0]; rw [if_neg (by omega)]
  rw [List.drop_eq_nil_of_le (by rw [← size_list]; omega)]; rfl
 | succ d ih =>
  intro k n hd hn hk
  obtain ⟨k, rfl⟩ : ∃ m, k = m + 1 := ⟨k - 1, by omega⟩
  have hlt : n < a.size := by omega
  simp only [cenotaphref01_Right.l0]; rw [if_pos (by omega), if_pos (by omega), bt_get a n hlt, drop_all _ _ (by rw [← size_list]; exact hlt)]
  generalize a.data.toList.getD n 0 = c
  by_cases hc : okDigit c = true
  ·have h1 : 49 ≤ (c.toNat : Int) ∧ (c.toNat : Int) ≤ 57 := by simp [okDigit, UInt8.le_iff_toNat_le] at hc; omega
   rw [if_neg (by omega), if_neg (by omega), wrap_id (by omega) (by omega)]
   have := ih k (n + 1) (by omega) (by omega) (by omega)
   simp only [Int.natCast_add, Int.cast_ofNat_Int] at this
   rw [this, hc]; rfl
  ·have h1 : (c.toNat : Int) < 49 ∨ (c.toNat : Int) > 57 := by simp [okDigit, UInt8.le_iff_toNat_le] at hc; omega
   have h2 : okDigit c = false := by simpa using hc
   rw [h2]
   by_cases h3 : (c.toNat : Int) < 49
   ·rw [if_pos h3]; rfl
   ·rw [if_neg h3, if_pos (by omega)]; rfl
theorem ref_right (a : ByteArray) (k : Nat) (hk : 9 ≤ k) : cenotaphref01_Right.f k a = some (rightB a) := by
 obtain ⟨k, rfl⟩ : ∃ m, k = m + 1 := ⟨k - 1, by omega⟩
 have hs := size_list a
 rw [rightB_eq]
 unfold cenotaphref01_Right.f
 simp only [cenotaphref01_Right.j0]
 by_cases h1 : (a.size : Int) < 1
 ·have h0 : a.data.toList = [] := List.eq_nil_of_length_eq_zero (by omega)
  rw [if_pos h1, if_pos trivial, h0]; rfl
 ·rw [if_neg h1]
  cases e : a.data.toList with
  | nil => rw [e] at hs; exact absurd hs (by simp only [List.length_nil]; omega)
  | cons c t =>
   rw [e] at hs
   simp only [List.length_cons] at hs
   by_cases h6 : (a.size : Int) > 6
   ·rw [if_pos h6, if_pos trivial]; simp only [idL]; rw [decide_eq_false (by omega)]; simp
   ·have e0 := bt_get a 0 (by omega)
    rw [e] at e0
    have e1 : bt a 0 = (c.toNat : Int) := e0
    rw [if_neg h6, if_pos (by omega), e1]
    simp only [idL]
    rw [decide_eq_true (show t.length ≤ 5 by omega)]
    by_cases hc : c = 48
    ·subst hc
     have := ref_right_loop a (by omega) (a.size - 1) k 1 rfl (by omega) (by omega)
     rw [e] at this
     simpa using this
    ·have h3 : (c == 48) = false := by simpa using hc
     have h4 : ((c.toNat : Int) != 48) = true := by
      rw [bne_iff_ne]; intro h; apply hc
      exact UInt8.toNat_inj.mp (by show c.toNat = 48; omega)
     rw [h4, h3]; simp
def fixD (c : UInt8) : UInt8 := 49 + c % 9
def fixL (l : List UInt8) : List UInt8 := 48 :: (l.take 5).map fixD
def fixB (a : ByteArray) : ByteArray := ⟨(fixL a.data.toList).toArray⟩
theorem fixD_ok (c : UInt8) : okDigit (fixD c) = true := by
 have h : c.toNat % 9 < 9 := Nat.mod_lt _ (by omega)
 simp [okDigit, fixD, UInt8.le_iff_toNat_le, UInt8.toNat_add, UInt8.toNat_mod]; omega
theorem fixL_ok (l : List UInt8) : idL (fixL l) = true := by
 unfold fixL idL
 have h : (l.take 5).length ≤ 5 := List.length_take_le _ _
 simp only [beq_self_eq_true, Bool.true_and, List.length_map, decide_eq_true h]
 rw [List.all_eq_true]
 intro x hx
 obtain ⟨c, _, rfl⟩ := List.mem_map.mp hx
 exact fixD_ok c
theorem digit_at (c : UInt8) : ((⟨#[49, 50, 51, 52, 53, 54, 55, 56, 57]⟩ : ByteArray).extract (c.toNat % 9) (c.toNat % 9 + 1)) = ⟨#[fixD c]⟩ := by
 have h : c.toNat % 9 < 9 := Nat.mod_lt _ (by omega)
 have e : fixD c = UInt8.ofNat (49 + c.toNat % 9) := by
  apply UInt8.toNat_inj.mp
  simp [fixD, UInt8.toNat_add, UInt8.toNat_mod]
 rw [e]
 generalize c.toNat % 9 = j at h ⊢
 match j, h with
 | 0, _ => rfl
 | 1, _ => rfl
 | 2, _ => rfl
 | 3, _ => rfl
 | 4, _ => rfl
 | 5, _ => rfl
 | 6, _ => rfl
 | 7, _ => rfl
 | 8, _ => rfl
theorem bytes_snoc (l : List UInt8) (c : UInt8) : (⟨l.toArray⟩ : ByteArray) ++ (⟨#[c]⟩ : ByteArray) = ⟨(l ++ [c]).toArray⟩ := by
 apply ByteArray.ext; simp
theorem ref_fix_loop (a : ByteArray) (d : Nat) : ∀ (k n : Nat) (l : List UInt8), 5 - n = d → n ≤ a.size → n ≤ 5 → d < k → l.length = n + 1 →
  cenotaphref01_Fix.l0 k a ⟨l.toArray⟩ (n : Int) = some ⟨(l ++ ((a.data.toList.drop n).take d).map fixD).toArray⟩ := by
 have sa := size_list a
 induction d with
 | zero =>
  intro k n l hd hn h5 hk hl
  obtain ⟨k, rfl⟩ : ∃ m, k = m + 1 := ⟨k - 1, by omega⟩
  simp only [cenotaphref01_Fix.l0]
  by_cases h : n < a.size
  ·rw [if_pos (by omega), if_neg (by omega)]; simp
  ·rw [if_neg (by omega)]; simp
 | succ d ih =>
  intro k n l hd hn h5 hk hl
  obtain ⟨k, rfl⟩ : ∃ m, k = m + 1 := ⟨k - 1, by omega⟩
  simp only [cenotaphref01_Fix.l0]
  by_cases h : n < a.size
  ·rw [if_pos (by omega), if_pos (by omega), if_pos (by omega), bt_get a n h]
   have e0 : a.data.toList.drop n = a.data.toList.getD n 0 :: a.data.toList.drop (n + 1) := by
    rw [List.drop_eq_getElem_cons (by omega)]; simp [List.getD, List.getElem?_eq_getElem (show n < a.data.toList.length by omega)]
   rw [e0]
   generalize a.data.toList.getD n 0 = c
   have hm : Int.tmod (c.toNat : Int) 9 = ((c.toNat % 9 : Nat) : Int) := by
    rw [Int.tmod_eq_emod_of_nonneg (by omega)]; rfl
   have h9 : c.toNat % 9 < 9 := Nat.mod_lt _ (by omega)
   have hm2 : (((c.toNat % 9 : Nat) : Int) + 1) % 256 = ((c.toNat % 9 + 1 : Nat) : Int) := by omega
   have hsz : (⟨l.toArray⟩ : ByteArray).size + (⟨#[fixD c]⟩ : ByteArray).size ≤ 9223372036854775807 := by
    show l.toArray.size + 1 ≤ _
    rw [List.size_toArray]; omega
   rw [hm, hm2, if_pos (by omega), if_pos (by omega), if_pos (by omega), Int.toNat_natCast, Int.toNat_natCast, digit_at, if_pos hsz, bytes_snoc, wrap_id (by omega) (by omega)]
   have := ih k (n + 1) (l ++ [fixD c]) (by omega) (by omega) (by omega) (by omega) (by simp; omega)
   simp only [Int.natCast_add, Int.cast_ofNat_Int] at this
   rw [this]; simp
  ·rw [if_neg (by omega), List.drop_eq_nil_of_le (by omega)]; simp
theorem ref_fix (a : ByteArray) (k : Nat) (hk : 6 ≤ k) : cenotaphref01_Fix.f k a = some (fixB a) := by
 have := ref_fix_loop a 5 k 0 [48] (by omega) (by omega) (by omega) (by omega) rfl
 unfold cenotaphref01_Fix.f
 simpa [fixB, fixL] using this
theorem fixB_right (a : ByteArray) : rightB (fixB a) = true := by
 rw [rightB_eq]; exact fixL_ok _
theorem drop_cons (l : List UInt8) (n : Nat) (h : n < l.length) : l.drop n = l.getD n 0 :: l.drop (n + 1) := by
 rw [List.drop_eq_getElem_cons h]; simp [List.getD, List.getElem?_eq_getElem h]
theorem cmp_cons (x y : UInt8) (a b : List UInt8) : Lib.compareBytes (x :: a) (y :: b) = if x < y then -1 else if y < x then 1 else Lib.compareBytes a b := rfl
theorem ref_compare_loop (a b : ByteArray) (ha : a.size ≤ 9223372036854775807) (d : Nat) : ∀ (k n : Nat), a.size - n = d → n ≤ a.size → n ≤ b.size → 2 * d + 1 < k →
  cenotaphref01_Compare.l0 k a b (n : Int) = some (Lib.compareBytes (a.data.toList.drop n) (b.data.toList.drop n)) := by
 have sa := size_list a; have sb := size_list b
 induction d with
 | zero =>
  intro k n hd hn hb hk
  obtain ⟨k, rfl⟩ : ∃ m, k = m + 2 := ⟨k - 2, by omega⟩
  have e1 : a.data.toList.drop n = [] := List.drop_eq_nil_of_le (by omega)
  simp only [cenotaphref01_Compare.l0]; rw [if_neg (by omega)]
  simp only [cenotaphref01_Compare.j1]; rw [if_neg (by simp), e1]
  by_cases h : n < b.size
  ·rw [if_pos (by omega), drop_cons _ _ (by omega)]; rfl
  ·rw [if_neg (by omega), if_neg (by omega), List.drop_eq_nil_of_le (by omega)]; rfl
 | succ d ih =>
  intro k n hd hn hb hk
  obtain ⟨k, rfl⟩ : ∃ m, k = m + 2 := ⟨k - 2, by omega⟩
  have hlt : n < a.size := by omega
  simp only [cenotaphref01_Compare.l0]; rw [if_pos (by omega)]
  simp only [cenotaphref01_Compare.j1]
  rw [drop_cons a.data.toList n (by omega)]
  by_cases h : n < b.size
  ·have hw := ih k (n + 1) (by omega) (by omega) (by omega) (by omega)
   simp only [Int.natCast_add, Int.cast_ofNat_Int] at hw
   rw [decide_eq_true (by omega), if_pos rfl, if_pos (by omega), if_pos (by omega), if_pos (by omega), bt_get a n hlt, bt_get b n h, drop_cons b.data.toList n (by omega), wrap_id (by omega) (by omega), hw]
   generalize a.data.toList.getD n 0 = x
   generalize b.data.toList.getD n 0 = y
   rw [cmp_cons]
   by_cases h1 : x < y
   ·have : (x.toNat : Int) < y.toNat := by have := UInt8.lt_iff_toNat_lt.mp h1; omega
    rw [if_pos this, if_pos h1]
   ·have n1 : ¬ (x.toNat : Int) < y.toNat := by intro h; exact h1 (UInt8.lt_iff_toNat_lt.mpr (by omega))
    rw [if_neg n1, if_neg h1]
    by_cases h2 : y < x
    ·have : (x.toNat : Int) > y.toNat := by have := UInt8.lt_iff_toNat_lt.mp h2; omega
     rw [if_pos this, if_pos h2]
    ·have n2 : ¬ (x.toNat : Int) > y.toNat := by intro h; exact h2 (UInt8.lt_iff_toNat_lt.mpr (by omega))
     rw [if_neg n2, if_neg h2]
  ·rw [decide_eq_false (by omega), if_neg (by simp), if_neg (by omega), if_pos (by omega), List.drop_eq_nil_of_le (by omega : b.data.toList.length ≤ n)]; rfl
theorem ref_compare (a b : ByteArray) (k : Nat) (ha : a.size ≤ 9223372036854775807) (hk : 2 * a.size + 2 ≤ k) : cenotaphref01_Compare.f k a b = some (Lib.compareBytes a.data.toList b.data.toList) := by
 have := ref_compare_loop a b ha a.size k 0 (by omega) (by omega) (by omega) (by omega)
 unfold cenotaphref01_Compare.f
 simpa using this
theorem id_compare (a b : ByteArray) : id_Compare.f a b = some (Lib.compareBytes a.data.toList b.data.toList) := rfl
abbrev SA := S67
def sA : AtS SA := ⟨fun x => x.f0, fun x => x.f1, fun a n => ⟨a, n⟩, fun _ _ => rfl, fun _ _ => rfl, fun _ => rfl⟩
theorem toL_eq {a b : ByteArray} : a.toList = b.toList ↔ a = b := by
 rw [Lib.toList_data, Lib.toList_data]
 exact ⟨fun h => bytes_ext h, fun h => by rw [h]⟩
theorem rdA (l : List SA) (n : Nat) : rd_T67 l (n : Int) = l.getD n z67 := rfl
theorem cloneA (l : List SA) (h : l.length < 1000000000) : vec_At_50.f l = some l := by
 simp only [vec_At_50.f, Option.bind_some, List.length_nil, List.nil_append]
 rw [if_pos (by omega)]
theorem findA {l : List SA} (h : PV sA l) (a : ByteArray) :
  (bsB (fun i => cmpB (l.getD i z67).f0 a) l.length = true → ∃ hi : bsN (fun i => cmpB (l.getD i z67).f0 a) l.length < l.length, (l[bsN (fun i => cmpB (l.getD i z67).f0 a) l.length]).f0 = a ∧ getM sA.id a l = some l[bsN (fun i => cmpB (l.getD i z67).f0 a) l.length]) ∧
  (bsB (fun i => cmpB (l.getD i z67).f0 a) l.length = false → getM sA.id a l = none ∧ bsN (fun i => cmpB (l.getD i z67).f0 a) l.length ≤ l.length ∧
   (∀ x ∈ l.take (bsN (fun i => cmpB (l.getD i z67).f0 a) l.length), ltB x.f0 a) ∧ ∀ x ∈ l.drop (bsN (fun i => cmpB (l.getD i z67).f0 a) l.length), ltB a x.f0) := find_spec (key := sA.id) z67 h.ks a
theorem vec_of {l : List SA} (h : PV sA l) (hl : l.length < 1000000000) (a : ByteArray) : vec_Of.f l a = some (ofV sA l a) := by
 obtain ⟨h1, h2⟩ := findA h a
 unfold vec_Of.f vec_find.f
 rw [if_pos (by omega), Option.bind_some]
 dsimp only
 cases hb : bsB (fun i => cmpB (l.getD i z67).f0 a) l.length with
 | true =>
  obtain ⟨hi, e, g⟩ := h1 hb
  rw [if_pos rfl, if_pos (by omega), if_pos (by omega), rdA]
  unfold ofV
  rw [g, getD_eq hi]; rfl
 | false =>
  obtain ⟨g, _⟩ := h2 hb
  rw [if_neg (by simp)]
  unfold ofV
  rw [g]
theorem vec_set {l : List SA} (h : PV sA l) (hl : l.length < 1000000000) (a : ByteArray) (m : Int) : vec_Set.f l a m = some (setV sA l a m) := by
 obtain ⟨h1, h2⟩ := findA h a
 unfold vec_Set.f
 rw [if_pos hl]
 congr 1
 unfold vec_Set.v setV
 by_cases hc : rightB a = true ∧ 1 ≤ m
 ·rw [if_pos hc, if_pos hc]
  have hn := h.nonneg a
  cases hb : bsB (fun i => cmpB (l.getD i z67).f0 a) l.length with
  | true =>
   obtain ⟨hi, e, g⟩ := h1 hb
   have ho : ofV sA l a = (l[bsN (fun i => cmpB (l.getD i z67).f0 a) l.length]).f1 := by unfold ofV; rw [g]; rfl
   rw [if_pos rfl]
   unfold putV
   rw [if_neg (by omega), mx_max, mn_min, getD_eq hi]
   rw [← putM_set toB (sA.of a (max (ofV sA l a) (min m 1048576))) h.ks hi e, ho]
   congr 1
   show (⟨_, _⟩ : SA) = ⟨a, _⟩
   rw [e]
  | false =>
   obtain ⟨g, _, hp, hq⟩ := h2 hb
   have ho : ofV sA l a = 0 := by unfold ofV; rw [g]
   rw [if_neg (by simp)]
   unfold putV
   rw [if_neg (by omega), ho, mn_min, show max 0 (min m 1048576) = min m 1048576 by omega]
   have := putM_parts (lt := ltB) (key := sA.id) toB (sA.of a (min m 1048576)) (p := l.take (bsN (fun i => cmpB (l.getD i z67).f0 a) l.length)) (q := l.drop (bsN (fun i => cmpB (l.getD i z67).f0 a) l.length)) (by rw [List.take_append_drop]; exact h.ks) hp hq
   rw [List.take_append_drop] at this
   exact this
 ·rw [if_neg hc, if_neg hc]
abbrev SR := S76
def sR : AtS SR := ⟨fun x => x.f0, fun x => x.f1, fun a n => ⟨a, n⟩, fun _ _ => rfl, fun _ _ => rfl, fun _ => rfl⟩
theorem rdR (l : List SR) (n : Nat) : rd_T76 l (n : Int) = l.getD n z76 := rfl
theorem rdR_succ (l : List SR) (n : Nat) : rd_T76 l ((n : Int) + 1) = l.getD (n + 1) z76 := rfl
/-- Names that a comparison can hold. -/
def SmallR (l : List SR) : Prop := ∀ x ∈ l, x.f0.size ≤ 1000
theorem right_size {a : ByteArray} (h : rightB a = true) : a.size ≤ 6 := by
 rw [rightB_eq] at h
 have hs := size_list a
 cases e : a.data.toList with
 | nil => rw [e] at h; simp [idL] at h
 | cons c t =>
  rw [e] at h hs
  simp only [idL, Bool.and_eq_true, decide_eq_true_eq] at h
  simp only [List.length_cons] at hs
  omega
theorem small_of {l : List SR} (h : OkV sR l) : SmallR l := fun x hx => by have := right_size (h.right x hx); have e : sR.id x = x.f0 := rfl; rw [e] at this; omega
theorem ref_of_loop (l : List SR) (a : ByteArray) (hl : l.length < 1000000) (d : Nat) : ∀ (k n : Nat), l.length - n = d → n ≤ l.length → d < k →
  cenotaphref03_Of.l0 k l a (n : Int) = some (ofV sR (l.drop n) a) := by
 induction d with
 | zero =>
  intro k n hd hn hk
  obtain ⟨k, rfl⟩ : ∃ m, k = m + 1 := ⟨k - 1, by omega⟩
  simp only [cenotaphref03_Of.l0]
  rw [if_neg (by omega), List.drop_eq_nil_of_le (by omega), ofV_nil]
 | succ d ih =>
  intro k n hd hn hk
  obtain ⟨k, rfl⟩ : ∃ m, k = m + 1 := ⟨k - 1, by omega⟩
  simp only [cenotaphref03_Of.l0]
  rw [if_pos (by omega), if_pos (by omega), rdR, drop_getD l z76 n (by omega), ofV_cons]
  generalize l.getD n z76 = x
  by_cases h : x.f0 = a
  ·rw [if_pos (toL_eq.mpr h), if_pos (show sR.id x = a from h)]; rfl
  ·rw [if_neg (fun e => h (toL_eq.mp e)), if_neg (show ¬ sR.id x = a from h), wrap_nat (by omega), ih k (n + 1) (by omega) (by omega) (by omega)]
theorem ref_of (l : List SR) (a : ByteArray) (hl : l.length < 1000000) (k : Nat) (hk : l.length < k) : cenotaphref03_Of.f k l a = some (ofV sR l a) := ref_of_loop l a hl l.length k 0 (by omega) (by omega) hk
theorem ref_drop_loop (l : List SR) (a : ByteArray) (hl : l.length < 1000000) (d : Nat) : ∀ (k n : Nat) (acc : List SR), l.length - n = d → n ≤ l.length → acc.length + d < 1000000 → d < k →
  cenotaphref03_Drop.l0 k l a acc (n : Int) = some (acc ++ dropM sR.id a (l.drop n)) := by
 induction d with
 | zero =>
  intro k n acc hd hn ha hk
  obtain ⟨k, rfl⟩ : ∃ m, k = m + 1 := ⟨k - 1, by omega⟩
  simp only [cenotaphref03_Drop.l0]
  rw [if_neg (by omega), List.drop_eq_nil_of_le (by omega)]; simp [dropM]
 | succ d ih =>
  intro k n acc hd hn ha hk
  obtain ⟨k, rfl⟩ : ∃ m, k = m + 1 := ⟨k - 1, by omega⟩
  simp only [cenotaphref03_Drop.l0]
  rw [if_pos (by omega), if_pos (by omega), rdR, drop_getD l z76 n (by omega), wrap_nat (by omega)]
  generalize l.getD n z76 = x
  by_cases h : x.f0 = a
  ·rw [if_pos (toL_eq.mpr h), ih k (n + 1) acc (by omega) (by omega) (by omega) (by omega)]
   unfold dropM
   rw [List.filter_cons_of_neg (by rw [decide_eq_true_eq]; exact fun e => e h)]
  ·rw [if_neg (fun e => h (toL_eq.mp e)), if_pos (by omega), ih k (n + 1) _ (by omega) (by omega) (by simp; omega) (by omega)]
   unfold dropM
   rw [List.filter_cons_of_pos (by rw [decide_eq_true_eq]; exact h), List.append_assoc]; rfl
theorem ref_drop (l : List SR) (a : ByteArray) (hl : l.length < 100000) (k : Nat) (hk : l.length < k) : cenotaphref03_Drop.f k l a = some (dropM sR.id a l) := by
 have := ref_drop_loop l a (by omega) l.length k 0 [] (by omega) (by omega) (by simp; omega) hk
 simpa [cenotaphref03_Drop.f] using this
def gtR (u v : SR) : Bool := decide (ltB (sR.id v) (sR.id u))
theorem ref_sink (v : SR) (hv : v.f0.size ≤ 1000) : ∀ (p q : List SR), SmallR p → p.length + q.length < 1000000 → ∀ k, p.length + 2100 < k →
  cenotaphref03_put.l0 k (p.reverse ++ v :: q) (p.length : Int) = some (sinkR gtR v p q)
 | [], q, hs, hl, k, hk => by
  obtain ⟨k, rfl⟩ : ∃ m, k = m + 1 := ⟨k - 1, by omega⟩
  simp only [cenotaphref03_put.l0]
  rw [if_neg (by simp)]; rfl
 | u :: p, q, hs, hl, k, hk => by
  obtain ⟨k, rfl⟩ : ∃ m, k = m + 1 := ⟨k - 1, by omega⟩
  simp only [List.length_cons] at hl hk
  have hu := hs u (by simp)
  have hj : ((u :: p).length : Int) = (p.length : Int) + 1 := by simp
  have hL : ((u :: p).reverse ++ v :: q) = p.reverse ++ u :: v :: q := by simp
  have hlen : ((u :: p).reverse ++ v :: q).length = p.length + 2 + q.length := by simp; omega
  have hg0 : (p.reverse ++ u :: v :: q).getD p.length z76 = u := by simp [List.getD]
  have hg1 : (p.reverse ++ u :: v :: q).getD (p.length + 1) z76 = v := by simp [List.getD]
  have hsw := swap_at z76 p.reverse u v q
  rw [List.length_reverse, hg0, hg1] at hsw
  simp only [cenotaphref03_put.l0]
  rw [hj, if_pos (by omega), wrap_id (by omega) (by omega), Int.add_sub_cancel, if_pos (by omega), if_pos (by omega), if_pos (by omega), if_pos (by omega), hL, rdR_succ, rdR, hg0, hg1, ref_compare _ _ k (by omega) (by omega), Option.bind_some, Int.toNat_natCast, show ((p.length : Int) + 1).toNat = p.length + 1 by omega]
  have hcc : (Lib.compareBytes u.f0.data.toList v.f0.data.toList > 0) ↔ gtR u v = true := by
   unfold gtR; rw [decide_eq_true_eq]; exact gtB
  unfold sinkR
  by_cases hc : gtR u v = true
  ·rw [if_pos (hcc.mpr hc), if_pos hc]
   have e : (⟨v.f0, v.f1⟩ : SR) = v := rfl
   have e2 : (⟨u.f0, u.f1⟩ : SR) = u := rfl
   rw [e, e2, hsw]
   exact ref_sink v hv p (u :: q) (fun x hx => hs x (by simp [hx])) (by simp; omega) k (by omega)
  ·rw [if_neg (fun h => hc (hcc.mp h)), if_neg hc]
   simp
theorem ref_put {l : List SR} (hs : SmallR l) (hl : l.length < 10000) (a : ByteArray) (ha : a.size ≤ 1000) (m : Int) (k : Nat) (hk : 20000 < k) : cenotaphref03_put.f k l a m = some (putV sR l a m) := by
 unfold cenotaphref03_put.f putV
 have hdl := dropM_length (key := sR.id) a l
 rw [ref_drop l a (by omega) k (by omega), Option.bind_some]
 by_cases hm : m < 1
 ·rw [if_pos hm, if_pos hm]
 ·rw [if_neg hm, if_neg hm, if_pos (by omega), Option.bind_some]
  have e : wrap64 (((dropM sR.id a l ++ [(⟨a, m⟩ : SR)]).length : Int) - 1) = ((dropM sR.id a l).reverse.length : Int) := by
   rw [wrap_id (by rw [List.length_append, List.length_singleton]; omega) (by rw [List.length_append, List.length_singleton]; omega), List.length_append, List.length_singleton, List.length_reverse]; omega
  have := ref_sink ⟨a, m⟩ ha (dropM sR.id a l).reverse [] (fun x hx => hs x ((mem_dropM _ _ _).mp (by simpa using hx)).1) (by simp; omega) k (by simp; omega)
  rw [e]
  rw [List.reverse_reverse] at this
  exact this
instance : DecidableEq SR := fun x y => decidable_of_iff (x.f0 = y.f0 ∧ x.f1 = y.f1) ⟨fun h => sR.ext h.1 h.2, fun e => e ▸ ⟨rfl, rfl⟩⟩
theorem rt_ext {x y : SR} : (!((x.f0.toList == y.f0.toList)) || (!(x.f1 == y.f1))) = true ↔ x ≠ y := by
 rw [Bool.or_eq_true, Bool.not_eq_true', Bool.not_eq_true', beq_eq_false_iff_ne, beq_eq_false_iff_ne, ne_eq, toL_eq]
 cases x; cases y
 simp only [ne_eq, S76.mk.injEq]
 exact Classical.not_and_iff_not_or_not.symm
theorem ref_same_loop3 (a b : List SR) (hl : a.length = b.length) (hs : a.length < 1000000) (d : Nat) : ∀ (k n : Nat), a.length - n = d → n ≤ a.length → d < k →
  cenotaphref03_Same.l0 k a b (n : Int) = some (decide (a.drop n = b.drop n)) := by
 induction d with
 | zero =>
  intro k n hd hn hk
  obtain ⟨k, rfl⟩ : ∃ m, k = m + 1 := ⟨k - 1, by omega⟩
  simp only [cenotaphref03_Same.l0]
  rw [if_neg (by omega), List.drop_eq_nil_of_le (by omega), List.drop_eq_nil_of_le (by omega)]; simp
 | succ d ih =>
  intro k n hd hn hk
  obtain ⟨k, rfl⟩ : ∃ m, k = m + 1 := ⟨k - 1, by omega⟩
  simp only [cenotaphref03_Same.l0]
  rw [if_pos (by omega), if_pos (by omega), if_pos (by omega), rdR, rdR, drop_getD a z76 n (by omega), drop_getD b z76 n (by omega)]
  by_cases h : a.getD n z76 = b.getD n z76
  ·rw [if_neg (fun e => rt_ext.mp e h), wrap_nat (by omega), ih k (n + 1) (by omega) (by omega) (by omega), h]
   congr 1
   rw [decide_eq_decide]; simp
  ·rw [if_pos (rt_ext.mpr h)]
   congr 1
   symm
   rw [decide_eq_false_iff_not]
   intro e
   exact h (List.cons.inj e).1
theorem ref_same3 (a b : List SR) (hs : a.length < 1000000) (k : Nat) (hk : a.length < k) : cenotaphref03_Same.f k a b = some (decide (a = b)) := by
 unfold cenotaphref03_Same.f
 by_cases h : a.length = b.length
 ·rw [if_pos (by omega)]
  have := ref_same_loop3 a b h hs a.length k 0 (by omega) (by omega) hk
  simpa using this
 ·rw [if_neg (by omega)]
  congr 1
  symm
  rw [decide_eq_false_iff_not]
  intro e; subst e; exact h rfl
/-- A remainder, as Go tells it of a number without sign. -/
theorem urem3 {v : Int} (m : Int) (hm : 0 < m) (hm2 : m ≤ 1000000) : ∃ z : Int, Int.tmod (IntKind.u64.wrap v) m = z ∧ 0 ≤ z ∧ z < m := by
 have hw : 0 ≤ IntKind.u64.wrap v := by
  unfold IntKind.wrap
  have hb : IntKind.u64.bits = 64 := rfl
  have hs : IntKind.u64.signed = false := rfl
  simp only [hb, hs, Bool.false_and, Bool.false_eq_true, if_false]
  omega
 exact ⟨_, rfl, Int.tmod_nonneg m hw, Int.tmod_lt_of_pos _ hm⟩
theorem putV_okV {l : List SR} (h : OkV sR l) {a : ByteArray} (ha : rightB a = true) {m : Int} (hm : m ≤ 1048576) : OkV sR (putV sR l a m) := by
 refine OkV.of_PV (putV_PV h.toPV a m) (fun i hi => ?_) (fun i => ?_)
 ·rw [ofV_put h.toPV] at hi
  by_cases e : i = a
  ·rw [e]; exact ha
  ·rw [if_neg e] at hi; exact h.right_of hi
 ·rw [ofV_put h.toPV]
  have := h.le_of i
  split
  ·split <;> omega
  ·exact this
theorem fix_loop3 (l : List SR) (d : Nat) : ∀ (n k : Nat) (out : List SR), 12 - n = d → n ≤ 12 → n ≤ l.length → OkV sR out → out.length ≤ n → 2 * d + 30000 < k →
  ∃ r, cenotaphref03_Fix.l0 k l out (n : Int) = some r ∧ OkV sR r ∧ r.length ≤ 12 := by
 induction d with
 | zero =>
  intro n k out hd hn hnl h hl hk
  obtain ⟨k, rfl⟩ : ∃ m, k = m + 2 := ⟨k - 2, by omega⟩
  refine ⟨out, ?_, h, by omega⟩
  simp only [cenotaphref03_Fix.l0]
  have hdec : decide ((n : Int) < 12) = false := decide_eq_false (by omega)
  by_cases h1 : (n : Int) < (l.length : Int)
  ·rw [if_pos h1, hdec]; simp only [cenotaphref03_Fix.j1]; rw [if_neg (by simp)]
  ·rw [if_neg h1]; simp only [cenotaphref03_Fix.j1]; rw [if_neg (by simp)]
 | succ d ih =>
  intro n k out hd hn hnl h hl hk
  obtain ⟨k, rfl⟩ : ∃ m, k = m + 2 := ⟨k - 2, by omega⟩
  simp only [cenotaphref03_Fix.l0]
  have hdec : decide ((n : Int) < 12) = true := decide_eq_true (by omega)
  by_cases h1 : (n : Int) < (l.length : Int)
  ·rw [if_pos h1, hdec]
   simp only [cenotaphref03_Fix.j1]
   obtain ⟨z, ez, z0, z1⟩ := urem3 (v := (rd_T76 l (n : Int)).f1) 1000 (by omega) (by omega)
   have hf := fixB_right (rd_T76 l (n : Int)).f0
   have hsz := right_size hf
   have hlen := putV_length (s := sR) out (fixB (rd_T76 l (n : Int)).f0) (1 + z)
   rw [if_pos trivial, if_pos (by omega), if_pos h1, ref_fix _ _ (by omega), Option.bind_some, ez, wrap_id (i := z) (by omega) (by omega), wrap_id (i := 1 + z) (by omega) (by omega), ref_put (small_of h) (by omega) _ (by omega) _ k (by omega), Option.bind_some, wrap_nat (by omega)]
   exact ih (n + 1) k _ (by omega) (by omega) (by omega) (putV_okV h hf (by omega)) (by omega) (by omega)
  ·rw [if_neg h1]; simp only [cenotaphref03_Fix.j1]; rw [if_neg (by simp)]
   exact ⟨out, rfl, h, by omega⟩
theorem ref_fix3 (l : List SR) (k : Nat) (hk : 40000 < k) : ∃ r, cenotaphref03_Fix.f k l = some r ∧ OkV sR r ∧ r.length ≤ 12 := by
 unfold cenotaphref03_Fix.f
 exact fix_loop3 l 12 0 k [] (by omega) (by omega) (by omega) OkV.nil (by simp) (by omega)
theorem getD_memR {l : List SR} {n : Nat} (h : n < l.length) : l.getD n z76 ∈ l := getD_mem h _
theorem ref_join_loop {b : List SR} (hb : OkV sR b) (hbl : b.length < 1000) (d : Nat) : ∀ (k n : Nat) (out : List SR), b.length - n = d → n ≤ b.length → OkV sR out → out.length + d < 5000 → d + 30000 < k →
  cenotaphref03_Join.l0 k b out (n : Int) = some (joinV sR sR out (b.drop n)) := by
 induction d with
 | zero =>
  intro k n out hd hn ho hlo hk
  obtain ⟨k, rfl⟩ : ∃ m, k = m + 1 := ⟨k - 1, by omega⟩
  simp only [cenotaphref03_Join.l0]
  rw [if_neg (by omega), List.drop_eq_nil_of_le (by omega)]; rfl
 | succ d ih =>
  intro k n out hd hn ho hlo hk
  obtain ⟨k, rfl⟩ : ∃ m, k = m + 1 := ⟨k - 1, by omega⟩
  have hx := getD_memR (l := b) (n := n) (by omega)
  have h1 := hb.right _ hx
  have h3 := hb.le _ hx
  simp only [cenotaphref03_Join.l0]
  rw [if_pos (by omega), if_pos (by omega), rdR, drop_getD b z76 n (by omega)]
  generalize b.getD n z76 = x at h1 h3 ⊢
  have hsz := right_size h1
  have hsz' : x.f0.size ≤ 1000 := by have e : sR.id x = x.f0 := rfl; rw [e] at hsz; omega
  have hlen := putV_length (s := sR) out (sR.id x) (max (ofV sR out (sR.id x)) (sR.n x))
  rw [ref_of out _ (by omega) k (by omega), Option.bind_some, ref_put (small_of ho) (by omega) _ hsz' _ k (by omega), Option.bind_some, wrap_nat (by omega), mx_max, joinV]
  refine ih k (n + 1) _ (by omega) (by omega) (putV_okV ho h1 ?_) (by
   show (putV sR out (sR.id x) (max (ofV sR out (sR.id x)) (sR.n x))).length + d < 5000
   omega) (by omega)
  have := ho.le_of x.f0
  have h3' : x.f1 ≤ 1048576 := h3
  omega
theorem ref_join {a b : List SR} (ha : OkV sR a) (hb : OkV sR b) (h1 : a.length < 1000) (h2 : b.length < 1000) (k : Nat) (hk : 40000 < k) :
  ∃ r, cenotaphref03_Join.f k a b = some r ∧ PV sR r ∧ (∀ i, ofV sR r i = max (ofV sR a i) (ofV sR b i)) ∧ r.length ≤ a.length + b.length := by
 obtain ⟨p, q, r⟩ := joinV_spec sR sR b a ha.toPV hb.toPV
 refine ⟨joinV sR sR a b, ?_, p, q, r⟩
 unfold cenotaphref03_Join.f
 simp only [Option.bind_some, List.length_nil, List.nil_append]
 rw [if_pos (by omega)]
 have := ref_join_loop hb h2 b.length k 0 a (by omega) (by omega) ha (by omega) (by omega)
 simpa using this
theorem to_loop3 (l : List SR) (hl : l.length < 1000000) (d : Nat) : ∀ (k n : Nat) (acc : List SA), l.length - n = d → n ≤ l.length → acc.length + d < 1000000 → d < k → cenotaphlaw03_To.l0 k l acc (n : Int) = some (acc ++ convV sR sA (l.drop n)) := by
 induction d with
 | zero =>
  intro k n acc hd hn ha hk
  obtain ⟨k, rfl⟩ : ∃ m, k = m + 1 := ⟨k - 1, by omega⟩
  simp only [cenotaphlaw03_To.l0]
  rw [if_neg (by omega), List.drop_eq_nil_of_le (by omega)]; simp [convV]
 | succ d ih =>
  intro k n acc hd hn ha hk
  obtain ⟨k, rfl⟩ : ∃ m, k = m + 1 := ⟨k - 1, by omega⟩
  simp only [cenotaphlaw03_To.l0]
  rw [if_pos (by omega), if_pos (by omega), if_pos (by omega), rdR, wrap_nat (by omega), ih k (n + 1) _ (by omega) (by omega) (by simp; omega) (by omega), drop_getD l z76 n (by omega), List.append_assoc]
  rfl
theorem to3 (l : List SR) (hl : l.length < 100000) (k : Nat) (hk : l.length < k) : cenotaphlaw03_To.f k l = some (convV sR sA l) := by
 have := to_loop3 l (by omega) l.length k 0 [] (by omega) (by omega) (by simp; omega) hk
 simpa [cenotaphlaw03_To.f] using this
theorem from_loop3 (l : List SA) (hl : l.length < 1000000) (d : Nat) : ∀ (k n : Nat) (acc : List SR), l.length - n = d → n ≤ l.length → acc.length + d < 1000000 → d < k → cenotaphlaw03_From.l0 k l acc (n : Int) = some (acc ++ convV sA sR (l.drop n)) := by
 induction d with
 | zero =>
  intro k n acc hd hn ha hk
  obtain ⟨k, rfl⟩ : ∃ m, k = m + 1 := ⟨k - 1, by omega⟩
  simp only [cenotaphlaw03_From.l0]
  rw [if_neg (by omega), List.drop_eq_nil_of_le (by omega)]; simp [convV]
 | succ d ih =>
  intro k n acc hd hn ha hk
  obtain ⟨k, rfl⟩ : ∃ m, k = m + 1 := ⟨k - 1, by omega⟩
  simp only [cenotaphlaw03_From.l0]
  rw [if_pos (by omega), if_pos (by omega), if_pos (by omega), rdA, wrap_nat (by omega), ih k (n + 1) _ (by omega) (by omega) (by simp; omega) (by omega), drop_getD l z67 n (by omega), List.append_assoc]
  rfl
theorem from3 (l : List SA) (hl : l.length < 100000) (k : Nat) (hk : l.length < k) : cenotaphlaw03_From.f k l = some (convV sA sR l) := by
 have := from_loop3 l (by omega) l.length k 0 [] (by omega) (by omega) (by simp; omega) hk
 simpa [cenotaphlaw03_From.f] using this
/-- The same as far: told in the reference's words they are one. -/
theorem same_as {x : List SA} {v : List SR} (hx : PV sA x) (hv : PV sR v) (h : ∀ i, ofV sA x i = ofV sR v i) : convV sA sR x = v :=
 PV.ext (convV_PV sA sR hx) hv fun i => by rw [ofV_conv]; exact h i
theorem getD_memA {l : List SA} {n : Nat} (h : n < l.length) : l.getD n z67 ∈ l := getD_mem h _
theorem PV.drop_ {α : Type} {s : AtS α} {l : List α} (h : PV s l) (n : Nat) : PV s (l.drop n) := ⟨List.Pairwise.sublist (List.drop_sublist n l) h.ks, fun x hx => h.pos x (List.mem_of_mem_drop hx)⟩
theorem vec_join_loop {l : List SA} (hl : OkV sA l) (hll : l.length < 1000000) (d : Nat) : ∀ (k n : Nat) (out : List SA), l.length - n = d → n ≤ l.length → PV sA out → out.length + d < 1000000 → d < k →
  vec_Join.l0 k out l (l.length : Int) (n : Int) = some (joinV sA sA out (l.drop n)) := by
 induction d with
 | zero =>
  intro k n out hd hn ho hlo hk
  obtain ⟨k, rfl⟩ : ∃ m, k = m + 1 := ⟨k - 1, by omega⟩
  simp only [vec_Join.l0]
  rw [if_neg (by omega), List.drop_eq_nil_of_le (by omega)]; rfl
 | succ d ih =>
  intro k n out hd hn ho hlo hk
  obtain ⟨k, rfl⟩ : ∃ m, k = m + 1 := ⟨k - 1, by omega⟩
  have hx := getD_memA (l := l) (n := n) (by omega)
  have h1 := hl.right _ hx
  have h2 := hl.pos _ hx
  have h3 := hl.le _ hx
  simp only [vec_Join.l0]
  rw [if_pos (by omega), if_pos (by omega), if_pos (by omega), rdA, drop_getD l z67 n (by omega)]
  generalize l.getD n z67 = x at h1 h2 h3 ⊢
  have hs : setV sA out x.f0 x.f1 = putV sA out (sA.id x) (max (ofV sA out (sA.id x)) (sA.n x)) := by
   unfold setV
   rw [if_pos ⟨h1, h2⟩]
   have h3' : x.f1 ≤ 1048576 := h3
   rw [show min x.f1 1048576 = x.f1 by omega]; rfl
  have hlen := putV_length (s := sA) out (sA.id x) (max (ofV sA out (sA.id x)) (sA.n x))
  rw [vec_set ho (by omega), Option.bind_some, wrap_nat (by omega), hs, joinV]
  exact ih k (n + 1) _ (by omega) (by omega) (putV_PV ho _ _) (by omega) (by omega)
theorem vec_join {a b : List SA} (ha : OkV sA a) (hb : OkV sA b) (h1 : a.length < 100000) (h2 : b.length < 100000) (k : Nat) (hk : b.length < k) :
  ∃ r, vec_Join.f k a b = some r ∧ OkV sA r ∧ (∀ i, ofV sA r i = max (ofV sA a i) (ofV sA b i)) ∧ r.length ≤ a.length + b.length := by
 obtain ⟨p, q, r⟩ := joinV_spec sA sA b a ha.toPV hb.toPV
 refine ⟨joinV sA sA a b, ?_, OkV.of_PV p (fun i hi => ?_) (fun i => ?_), q, r⟩
 ·unfold vec_Join.f
  rw [cloneA a (by omega), Option.bind_some]
  have := vec_join_loop hb (by omega) b.length k 0 a (by omega) (by omega) ha.toPV (by omega) hk
  simpa using this
 ·rw [q] at hi
  by_cases h : 0 < ofV sA a i
  ·exact ha.right_of h
  ·exact hb.right_of (by omega)
 ·rw [q]; have := ha.le_of i; have := hb.le_of i; omega
abbrev SM := S50
def tA : RoS SM SA := ⟨fun x => x.f0, fun x => x.f1, fun a n => ⟨a, n⟩, fun _ _ => rfl, fun _ _ => rfl, fun _ => rfl⟩
/-- No row is longer. -/
def LenM (n : Nat) (m : List SM) : Prop := ∀ x ∈ m, x.f1.length ≤ n
theorem LenM.nil {n : Nat} : LenM n [] := fun _ h => by cases h
theorem LenM.imp {n n' : Nat} {m : List SM} (h : LenM n m) (hn : n ≤ n') : LenM n' m := fun x hx => Nat.le_trans (h x hx) hn
theorem LenM.okM {n : Nat} {m : List SM} (h : LenM n m) (hn : n < 1000000000) (hm : m.length < 1000000000) : P.okM m := ⟨hm, fun x hx => by have := h x hx; omega⟩
theorem LenM.of {n : Nat} {m : List SM} (h : LenM n m) (a : ByteArray) : (ofR tA m a).length ≤ n := by
 rcases ofR_cases (t := tA) m a with ⟨x, hx, _, e, _⟩ | ⟨_, e, _⟩
 ·rw [e]; exact h x hx
 ·rw [e]; exact Nat.zero_le _
theorem findM {m : List SM} (h : KS ltB tA.id m) (a : ByteArray) :
  (mB m a = true → ∃ hi : mN m a < m.length, (m[mN m a]).f0 = a ∧ getM tA.id a m = some m[mN m a]) ∧
  (mB m a = false → getM tA.id a m = none ∧ mN m a ≤ m.length ∧ (∀ x ∈ m.take (mN m a), ltB x.f0 a) ∧ ∀ x ∈ m.drop (mN m a), ltB a x.f0) := find_spec (key := tA.id) z50 h a
theorem mat_of {m : List SM} (h : OkM tA sA m) (a : ByteArray) : ofM m a = ofR tA m a := by
 obtain ⟨h1, h2⟩ := findM h.ks a
 unfold ofM ofR
 cases hb : mB m a with
 | true =>
  obtain ⟨hi, e, g⟩ := h1 hb
  rw [if_pos rfl, g, getD_eq hi]; rfl
 | false =>
  obtain ⟨g, _⟩ := h2 hb
  rw [if_neg (by simp), g]
theorem mat_put {m : List SM} (h : OkM tA sA m) {n p : Nat} (hn : LenM n m) (hn2 : n < 100000) (a : ByteArray) {v : List SA} (hv : OkV sA v) (hp : v.length ≤ p) (hp2 : p < 100000) (k : Nat) (hk : p < k) :
  ∃ r, mputF k m a v = some r ∧ IsPut tA sA m a (ofV sA v) r ∧ LenM (n + p) r := by
 obtain ⟨h1, h2⟩ := findM h.ks a
 unfold mputF
 cases hb : mB m a with
 | true =>
  obtain ⟨hi, e, g⟩ := h1 hb
  have hmem : m[mN m a] ∈ m := List.getElem_mem hi
  have hof : ofR tA m a = (m[mN m a]).f1 := by unfold ofR; rw [g]; rfl
  have hx := h.ok _ hmem
  have hxl := hn _ hmem
  obtain ⟨J, hJ, hJ1, hJ2, hJ3⟩ := vec_join hx hv (show (tA.v m[mN m a]).length < 100000 from by show (m[mN m a]).f1.length < 100000; omega) (by omega) k (by omega)
  have hJ' : vec_Join.f k (m[mN m a]).f1 v = some J := hJ
  rw [if_pos rfl, getD_eq hi, hJ', Option.bind_some, e]
  have hput : m.set (mN m a) ⟨a, J⟩ = putM ltB tA.id (tA.of a J) m := putM_set toB (tA.of a J) h.ks hi (by rw [tA.id_of]; exact e)
  have hne : J ≠ [] := by
   intro hn0
   obtain ⟨i, hi0⟩ := OkV.ne_pos hx.toPV (h.ne _ hmem)
   have h3 := hJ2 i
   rw [hn0, ofV_nil] at h3
   omega
  refine ⟨_, rfl, ?_, fun x hx2 => ?_⟩
  ·rw [hput]
   exact isPut_put h a hJ1 (fun i => by rw [hJ2]; unfold atM; rw [hof]; rfl) (by rw [← e]; exact h.right _ hmem) hne
  ·rcases List.mem_or_eq_of_mem_set hx2 with hx2 | hx2
   ·have := hn x hx2; omega
   ·rw [hx2]
    have h4 : J.length ≤ (m[mN m a]).f1.length + v.length := hJ3
    show J.length ≤ n + p
    omega
 | false =>
  obtain ⟨g, hle, hlo, hhi⟩ := h2 hb
  have hof : ofR tA m a = [] := by unfold ofR; rw [g]
  rw [if_neg (by simp)]
  have hf : ∀ i, ofV sA v i = max (atM tA sA m a i) (ofV sA v i) := fun i => by
   unfold atM
   rw [hof, ofV_nil]
   have := hv.nonneg i
   omega
  by_cases hR : rightB a = true ∧ 0 < v.length
  ·rw [if_pos hR]
   have hne : v ≠ [] := fun e => by rw [e] at hR; simp at hR
   have hput : m.take (mN m a) ++ (⟨a, v⟩ : SM) :: m.drop (mN m a) = putM ltB tA.id (tA.of a v) m := by
    have hh := putM_parts toB (tA.of a v) (p := m.take (mN m a)) (q := m.drop (mN m a)) (by rw [List.take_append_drop]; exact h.ks) (fun x hx => by rw [tA.id_of]; exact hlo x hx) (fun x hx => by rw [tA.id_of]; exact hhi x hx)
    rw [List.take_append_drop] at hh
    exact hh
   refine ⟨_, rfl, ?_, fun x hx => ?_⟩
   ·rw [hput]
    exact isPut_put h a hv hf hR.1 hne
   ·rcases List.mem_append.mp hx with hx | hx
    ·have := hn x (List.mem_of_mem_take hx); omega
    ·rcases List.mem_cons.mp hx with hx | hx
     ·rw [hx]; show v.length ≤ n + p; omega
     ·have := hn x (List.mem_of_mem_drop hx); omega
  ·rw [if_neg hR]
   refine ⟨m, rfl, isPut_none h a hv hf (fun hh => hR ⟨hh.1, ?_⟩), hn.imp (by omega)⟩
   cases v with
   | nil => exact absurd rfl hh.2
   | cons x l => simp
theorem prog_of {m : List SM} (h : OkM tA sA m) {n : Nat} (hn : LenM n m) (hn2 : n < 100000) (hm : m.length < 100000) (a : ByteArray) : matrix_Of.f m a = some (ofR tA m a) := by
 unfold matrix_Of.f
 rw [if_pos (hn.okM (by omega) (by omega)), mat_of h]
theorem prog_put {m : List SM} (h : OkM tA sA m) {n p : Nat} (hn : LenM n m) (hn2 : n < 100000) (hm : m.length < 100000) (a : ByteArray) {v : List SA} (hv : OkV sA v) (hp : v.length ≤ p) (hp2 : p < 100000) (k : Nat) (hk : p < k) :
  ∃ r, matrix_Put.f k m a v = some r ∧ IsPut tA sA m a (ofV sA v) r ∧ LenM (n + p) r := by
 unfold matrix_Put.f
 rw [if_pos ⟨hn.okM (by omega) (by omega), by omega⟩]
 exact mat_put h hn hn2 a hv hp hp2 k hk
abbrev SN := S25
def tR : RoS SN SR := ⟨fun x => x.f0, fun x => x.f1, fun a n => ⟨a, n⟩, fun _ _ => rfl, fun _ _ => rfl, fun _ => rfl⟩
theorem rdN (l : List SN) (n : Nat) : rd_T25 l (n : Int) = l.getD n z25 := rfl
theorem rdM (l : List SM) (n : Nat) : rd_T50 l (n : Int) = l.getD n z50 := rfl
theorem right_small {a : ByteArray} (h : rightB a = true) : a.size ≤ 1000 := by have := right_size h; omega
instance : DecidableEq SN := fun x y => if h : x.f0 = y.f0 ∧ x.f1 = y.f1 then .isTrue (by obtain ⟨a, b⟩ := x; obtain ⟨c, d⟩ := y; obtain ⟨h1, h2⟩ := h; dsimp only at h1 h2; rw [h1, h2]) else .isFalse (fun e => h (by rw [e]; exact ⟨rfl, rfl⟩))
/-- No row is longer. -/
def LenN (n : Nat) (m : List SN) : Prop := ∀ x ∈ m, x.f1.length ≤ n
theorem LenN.nil {n : Nat} : LenN n [] := fun _ h => by cases h
theorem LenN.imp {n n' : Nat} {m : List SN} (h : LenN n m) (hn : n ≤ n') : LenN n' m := fun x hx => Nat.le_trans (h x hx) hn
theorem LenN.of {n : Nat} {m : List SN} (h : LenN n m) (a : ByteArray) : (ofR tR m a).length ≤ n := by
 rcases ofR_cases (t := tR) m a with ⟨x, hx, _, e, _⟩ | ⟨_, e, _⟩
 ·rw [e]; exact h x hx
 ·rw [e]; exact Nat.zero_le _
theorem ref_of_loop10 (l : List SN) (a : ByteArray) (hl : l.length < 1000000) (d : Nat) : ∀ (k n : Nat), l.length - n = d → n ≤ l.length → d < k →
  cenotaphref10_Of.l0 k l a (n : Int) = some (ofR tR (l.drop n) a) := by
 induction d with
 | zero =>
  intro k n hd hn hk
  obtain ⟨k, rfl⟩ : ∃ m, k = m + 1 := ⟨k - 1, by omega⟩
  simp only [cenotaphref10_Of.l0]
  rw [if_neg (by omega), List.drop_eq_nil_of_le (by omega), ofR_nil]
 | succ d ih =>
  intro k n hd hn hk
  obtain ⟨k, rfl⟩ : ∃ m, k = m + 1 := ⟨k - 1, by omega⟩
  simp only [cenotaphref10_Of.l0]
  rw [if_pos (by omega), if_pos (by omega), rdN, drop_getD l z25 n (by omega), ofR_cons]
  generalize l.getD n z25 = x
  by_cases h : x.f0 = a
  ·rw [if_pos (toL_eq.mpr h), if_pos (show tR.id x = a from h)]; rfl
  ·rw [if_neg (fun e => h (toL_eq.mp e)), if_neg (show ¬ tR.id x = a from h), wrap_nat (by omega), ih k (n + 1) (by omega) (by omega) (by omega)]
theorem ref_of10 (l : List SN) (a : ByteArray) (hl : l.length < 1000000) (k : Nat) (hk : l.length < k) : cenotaphref10_Of.f k l a = some (ofR tR l a) := ref_of_loop10 l a hl l.length k 0 (by omega) (by omega) hk
theorem ref_drop_loop10 (l : List SN) (a : ByteArray) (hl : l.length < 1000000) (d : Nat) : ∀ (k n : Nat) (acc : List SN), l.length - n = d → n ≤ l.length → acc.length + d < 1000000 → d < k →
  cenotaphref10_Drop.l0 k l a acc (n : Int) = some (acc ++ dropM tR.id a (l.drop n)) := by
 induction d with
 | zero =>
  intro k n acc hd hn ha hk
  obtain ⟨k, rfl⟩ : ∃ m, k = m + 1 := ⟨k - 1, by omega⟩
  simp only [cenotaphref10_Drop.l0]
  rw [if_neg (by omega), List.drop_eq_nil_of_le (by omega)]; simp [dropM]
 | succ d ih =>
  intro k n acc hd hn ha hk
  obtain ⟨k, rfl⟩ : ∃ m, k = m + 1 := ⟨k - 1, by omega⟩
  simp only [cenotaphref10_Drop.l0]
  rw [if_pos (by omega), if_pos (by omega), rdN, drop_getD l z25 n (by omega), wrap_nat (by omega)]
  generalize l.getD n z25 = x
  by_cases h : x.f0 = a
  ·rw [if_pos (toL_eq.mpr h), ih k (n + 1) acc (by omega) (by omega) (by omega) (by omega)]
   unfold dropM
   rw [List.filter_cons_of_neg (by rw [decide_eq_true_eq]; exact fun e => e h)]
  ·rw [if_neg (fun e => h (toL_eq.mp e)), if_pos (by omega), ih k (n + 1) _ (by omega) (by omega) (by simp; omega) (by omega)]
   unfold dropM
   rw [List.filter_cons_of_pos (by rw [decide_eq_true_eq]; exact h), List.append_assoc]; rfl
theorem ref_drop10 (l : List SN) (a : ByteArray) (hl : l.length < 100000) (k : Nat) (hk : l.length < k) : cenotaphref10_Drop.f k l a = some (dropM tR.id a l) := by
 have := ref_drop_loop10 l a (by omega) l.length k 0 [] (by omega) (by omega) (by simp; omega) hk
 simpa [cenotaphref10_Drop.f] using this
def gtN (u v : SN) : Bool := decide (ltB (tR.id v) (tR.id u))
theorem sinkO_is (v : SN) (hv : v.f0.size ≤ 1000) (k : Nat) (hk : 2100 < k) : ∀ (p q : List SN), (∀ x ∈ p, x.f0.size ≤ 1000) → sinkO k v p q = some (sinkR gtN v p q)
 | [], q, hs => rfl
 | u :: p, q, hs => by
  have hcc : (Lib.compareBytes u.f0.data.toList v.f0.data.toList > 0) ↔ gtN u v = true := by
   unfold gtN; rw [decide_eq_true_eq]; exact gtB
  have hu := hs u (by simp)
  unfold sinkO sinkR
  rw [ref_compare _ _ k (by omega) (by omega), Option.bind_some]
  by_cases hc : gtN u v = true
  ·rw [if_pos (hcc.mpr hc), if_pos hc]
   exact sinkO_is v hv k hk p (u :: q) (fun x hx => hs x (by simp [hx]))
  ·rw [if_neg (fun h => hc (hcc.mp h)), if_neg hc]
theorem small10 {m : List SN} (h : OkM tR sR m) : ∀ x ∈ m, x.f0.size ≤ 1000 := fun x hx => right_small (h.right x hx)
theorem ok_max {w a v : List SR} (hw : PV sR w) (ha : OkV sR a) (hv : OkV sR v) (h : ∀ i, ofV sR w i = max (ofV sR a i) (ofV sR v i)) : OkV sR w := by
 refine OkV.of_PV hw (fun i hi => ?_) (fun i => ?_)
 ·rw [h] at hi
  by_cases h0 : 0 < ofV sR a i
  ·exact ha.right_of h0
  ·exact hv.right_of (by omega)
 ·rw [h]; have := ha.le_of i; have := hv.le_of i; omega
theorem ok_min {w a v : List SR} (hw : PV sR w) (ha : OkV sR a) (hv : OkV sR v) (h : ∀ i, ofV sR w i = min (ofV sR a i) (ofV sR v i)) : OkV sR w := by
 refine OkV.of_PV hw (fun i hi => ?_) (fun i => ?_)
 ·rw [h] at hi; exact ha.right_of (by omega)
 ·rw [h]; have := ha.le_of i; have := hv.le_of i; omega
theorem ref_put10 {m : List SN} (h : OkM tR sR m) (hml : m.length < 1000) {n p : Nat} (hn : LenN n m) (hn2 : n < 1000) (a : ByteArray) {v : List SR} (hv : OkV sR v) (hp : v.length ≤ p) (hp2 : p < 1000) (k : Nat) (hk : 50000 < k) :
  ∃ r, cenotaphref10_Put.f k m a v = some r ∧ IsPut tR sR m a (ofV sR v) r ∧ LenN (n + p) r := by
 have hof := hn.of a
 obtain ⟨w, hw, hw0, hw2, hw3⟩ := ref_join (h.ofR a) hv (by omega) (by omega) k (by omega)
 have hw1 := ok_max hw0 (h.ofR a) hv hw2
 unfold cenotaphref10_Put.f
 rw [ref_of10 m a (by omega) k (by omega), Option.bind_some, hw, Option.bind_some, ref_right a k (by omega), Option.bind_some]
 by_cases hc : rightB a = true ∧ 1 ≤ w.length
 ·have hne : w ≠ [] := fun e => by rw [e] at hc; simp at hc
  have hdl := dropM_length (key := tR.id) a m
  rw [if_pos hc, ref_drop10 m a (by omega) k (by omega), Option.bind_some, if_pos (by omega), sinkO_is _ (right_small hc.1) k (by omega) _ _ (fun x hx => small10 (h.drop a) x (List.mem_reverse.mp hx))]
  refine ⟨_, rfl, ?_, fun x hx => ?_⟩
  ·exact isPut_put h a hw1 hw2 hc.1 hne
  ·rcases (mem_putM (lt := ltB) (key := tR.id) (⟨a, w⟩ : SN) m x).mp hx with e | ⟨hx, _⟩
   ·rw [e]; show w.length ≤ n + p; omega
   ·have := hn x hx; omega
 ·rw [if_neg hc, if_pos (by omega)]
  refine ⟨m, rfl, isPut_none h a hw1 hw2 (fun hh => hc ⟨hh.1, ?_⟩), hn.imp (by omega)⟩
  cases w with
  | nil => exact absurd rfl hh.2
  | cons x l => simp
theorem fix_loop10 (l : List SN) (d : Nat) : ∀ (n k : Nat) (out : List SN), 8 - n = d → n ≤ 8 → n ≤ l.length → OkM tR sR out → out.length ≤ n → LenN (12 * n) out → 2 * d + 60000 < k →
  ∃ r, cenotaphref10_Fix.l0 k l out (n : Int) = some r ∧ OkM tR sR r ∧ r.length ≤ 8 ∧ LenN 96 r := by
 induction d with
 | zero =>
  intro k0 k out hd hn hnl h hl hL hk
  obtain ⟨k, rfl⟩ : ∃ m, k = m + 2 := ⟨k - 2, by omega⟩
  refine ⟨out, ?_, h, by omega, hL.imp (by omega)⟩
  simp only [cenotaphref10_Fix.l0]
  have hdec : decide ((k0 : Int) < 8) = false := decide_eq_false (by omega)
  by_cases h1 : (k0 : Int) < (l.length : Int)
  ·rw [if_pos h1, hdec]; simp only [cenotaphref10_Fix.j1]; rw [if_neg (by simp)]
  ·rw [if_neg h1]; simp only [cenotaphref10_Fix.j1]; rw [if_neg (by simp)]
 | succ d ih =>
  intro n k out hd hn hnl h hl hL hk
  obtain ⟨k, rfl⟩ : ∃ m, k = m + 2 := ⟨k - 2, by omega⟩
  simp only [cenotaphref10_Fix.l0]
  have hdec : decide ((n : Int) < 8) = true := decide_eq_true (by omega)
  by_cases h1 : (n : Int) < (l.length : Int)
  ·rw [if_pos h1, hdec]
   simp only [cenotaphref10_Fix.j1]
   obtain ⟨v, ev, okv, hvl⟩ := ref_fix3 (rd_T25 l (n : Int)).f1 k (by omega)
   obtain ⟨r, er, ip, hrl⟩ := ref_put10 h (by omega) hL (by omega) (fixB (rd_T25 l (n : Int)).f0) okv hvl (by omega) k (by omega)
   rw [if_pos trivial, if_pos (by omega), if_pos h1, ref_fix _ k (by omega), Option.bind_some, ev, Option.bind_some, er, Option.bind_some, wrap_nat (by omega)]
   have := ip.len
   exact ih (n + 1) k r (by omega) (by omega) (by omega) ip.ok (by omega) (hrl.imp (by omega)) (by omega)
  ·rw [if_neg h1]
   simp only [cenotaphref10_Fix.j1]
   rw [if_neg (by simp)]
   exact ⟨out, rfl, h, by omega, hL.imp (by omega)⟩
theorem ref_fix10 (l : List SN) (k : Nat) (hk : 70000 < k) : ∃ r, cenotaphref10_Fix.f k l = some r ∧ OkM tR sR r ∧ r.length ≤ 8 ∧ LenN 96 r :=
 fix_loop10 l 8 0 k [] rfl (by omega) (by omega) OkM.nil (by simp) LenN.nil (by omega)
theorem to_loop10 (l : List SN) (hl : l.length < 1000000) {q : Nat} (hq : LenN q l) (hq2 : q < 100000) (d : Nat) : ∀ (k n : Nat) (acc : List SM), l.length - n = d → n ≤ l.length → acc.length + d < 1000000 → d + q < k → cenotaphlaw10_To.l0 k l acc (n : Int) = some (acc ++ convM tR sR tA sA (l.drop n)) := by
 induction d with
 | zero =>
  intro k n acc hd hn ha hk
  obtain ⟨k, rfl⟩ : ∃ m, k = m + 1 := ⟨k - 1, by omega⟩
  simp only [cenotaphlaw10_To.l0]
  rw [if_neg (by omega), List.drop_eq_nil_of_le (by omega)]; simp [convM]
 | succ d ih =>
  intro k n acc hd hn ha hk
  obtain ⟨k, rfl⟩ : ∃ m, k = m + 1 := ⟨k - 1, by omega⟩
  simp only [cenotaphlaw10_To.l0]
  have hx := hq (l.getD n z25) (getD_mem (by omega) _)
  rw [if_pos (by omega), if_pos (by omega), rdN, to3 _ (by omega) k (by omega), Option.bind_some, if_pos (by omega), wrap_nat (by omega), ih k (n + 1) _ (by omega) (by omega) (by simp; omega) (by omega), drop_getD l z25 n (by omega), List.append_assoc]
  rfl
theorem to10 (l : List SN) (hl : l.length < 100000) {q : Nat} (hq : LenN q l) (hq2 : q < 100000) (k : Nat) (hk : l.length + q < k) : cenotaphlaw10_To.f k l = some (convM tR sR tA sA l) := by
 have := to_loop10 l (by omega) hq hq2 l.length k 0 [] (by omega) (by omega) (by simp; omega) hk
 simpa [cenotaphlaw10_To.f] using this
theorem LenN.conv {n : Nat} {m : List SN} (h : LenN n m) : LenM n (convM tR sR tA sA m) := fun y hy => by
 obtain ⟨x, hx, e⟩ := List.mem_map.mp hy
 rw [← e]
 show (convV sR sA x.f1).length ≤ n
 rw [convV_length]; exact h x hx
/-- Right is what the row asks of each. -/
theorem fixed10 (l : List SN) (k : Nat) (hk : 70000 < k) : ∃ r, cenotaphref10_Fix.f k l = some r ∧ OkM tR sR r ∧ r.length ≤ 8 ∧ LenN 96 r ∧ cenotaphlaw10_To.f k r = some (convM tR sR tA sA r) ∧ OkM tA sA (convM tR sR tA sA r) ∧ (convM tR sR tA sA r).length ≤ 8 ∧ LenM 96 (convM tR sR tA sA r) := by
 obtain ⟨r, e, h1, h2, h3⟩ := ref_fix10 l k hk
 exact ⟨r, e, h1, h2, h3, to10 r (by omega) h3 (by omega) k (by omega), convM_ok h1, by rw [convM_length]; exact h2, h3.conv⟩
theorem ref_merge_loop10 {b : List SN} (hb : OkM tR sR b) {p : Nat} (hp : LenN p b) (hp2 : p < 100) (hbl : b.length ≤ 8) {m : List SN} (hm : OkM tR sR m) {f : ByteArray → ByteArray → Int} (d : Nat) : ∀ (k n : Nat) (out : List SN) (q : Nat), b.length - n = d → n ≤ b.length → OkM tR sR out → LenN q out → q + p * d < 1000 → out.length + d < 1000 → d + 60000 < k →
  ∃ r, cenotaphref10_Merge.l0 k b out (n : Int) = some r ∧ IsMerge tR sR out (atM tR sR (b.drop n)) r ∧ LenN (q + p * d) r ∧ r.length ≤ out.length + d := by
 induction d with
 | zero =>
  intro k n out q hd hn ho hq h1 h2 hk
  obtain ⟨k, rfl⟩ : ∃ m, k = m + 1 := ⟨k - 1, by omega⟩
  simp only [cenotaphref10_Merge.l0]
  rw [if_neg (by omega), List.drop_eq_nil_of_le (by omega)]
  exact ⟨out, rfl, isMerge_nil ho, hq.imp (by omega), by omega⟩
 | succ d ih =>
  intro k n out q hd hn ho hq h1 h2 hk
  obtain ⟨k, rfl⟩ : ∃ m, k = m + 1 := ⟨k - 1, by omega⟩
  simp only [cenotaphref10_Merge.l0]
  have hdr := drop_getD b z25 n (by omega)
  have hmem : b.getD n z25 ∈ b := getD_mem (by omega) _
  have hbd : OkM tR sR (b.drop n) := hb.sub (List.drop_sublist n b)
  rw [if_pos (by omega), if_pos (by omega), rdN, wrap_nat (by omega)]
  rw [hdr] at hbd ⊢
  have hxl := hp _ hmem
  generalize b.getD n z25 = x at hbd hxl ⊢
  have e1 : p * (d + 1) = p + p * d := by rw [Nat.mul_succ]; omega
  rw [e1] at h1
  obtain ⟨o, eo, ip, ol⟩ := ref_put10 ho (by omega) hq (by omega) x.f0 (hbd.ok x (by simp)) hxl (by omega) k (by omega)
  have eo' : cenotaphref10_Put.f k out x.f0 x.f1 = some o := eo
  have hlen := ip.len
  obtain ⟨r, er, im, rl, rn⟩ := ih k (n + 1) o (q + p) (by omega) (by omega) ip.ok ol (by omega) (by omega) (by omega)
  rw [eo', Option.bind_some]
  exact ⟨r, er, isMerge_step hbd ho ip im, rl.imp (by omega), by omega⟩
theorem ref_merge10 {a b : List SN} (ha : OkM tR sR a) (hb : OkM tR sR b) (hal : a.length ≤ 8) (hbl : b.length ≤ 8) (h1 : LenN 96 a) (h2 : LenN 96 b) (k : Nat) (hk : 70000 < k) :
  ∃ r, cenotaphref10_Merge.f k a b = some r ∧ IsMerge tR sR a (atM tR sR b) r ∧ LenN 864 r ∧ r.length ≤ 16 := by
 obtain ⟨r, e1, e2, e3, e4⟩ := ref_merge_loop10 hb h2 (by omega) hbl ha (f := atM tR sR b) b.length k 0 a 96 (by omega) (by omega) ha h1 (by omega) (by omega) (by omega)
 refine ⟨r, ?_, by simpa using e2, e3.imp (by omega), by omega⟩
 unfold cenotaphref10_Merge.f
 rw [Option.bind_some, if_pos (by simp; omega), List.nil_append]
 exact e1
theorem ref_meet_loop {a b : List SR} (ha : OkV sR a) (hal : a.length < 1000) (hbl : b.length < 1000) (d : Nat) : ∀ (k n : Nat) (out : List SR), a.length - n = d → n ≤ a.length → OkV sR out → out.length + d < 5000 → d + 30000 < k →
  cenotaphref03_Meet.l0 k a b out (n : Int) = some (meetP sR sR b out (a.drop n)) := by
 induction d with
 | zero =>
  intro k n out hd hn ho hlo hk
  obtain ⟨k, rfl⟩ : ∃ m, k = m + 1 := ⟨k - 1, by omega⟩
  simp only [cenotaphref03_Meet.l0]
  rw [if_neg (by omega), List.drop_eq_nil_of_le (by omega)]; rfl
 | succ d ih =>
  intro k n out hd hn ho hlo hk
  obtain ⟨k, rfl⟩ : ∃ m, k = m + 1 := ⟨k - 1, by omega⟩
  have hx := getD_memR (l := a) (n := n) (by omega)
  have h1 := ha.right _ hx
  have h3 := ha.le _ hx
  simp only [cenotaphref03_Meet.l0]
  rw [if_pos (by omega), if_pos (by omega), rdR, drop_getD a z76 n (by omega)]
  generalize a.getD n z76 = x at h1 h3 ⊢
  have hsz := right_size h1
  have hsz' : x.f0.size ≤ 1000 := by have e : sR.id x = x.f0 := rfl; rw [e] at hsz; omega
  have hlen := putV_length (s := sR) out (sR.id x) (min (sR.n x) (ofV sR b (sR.id x)))
  rw [ref_of b _ (by omega) k (by omega), Option.bind_some, ref_put (small_of ho) (by omega) _ hsz' _ k (by omega), Option.bind_some, wrap_nat (by omega), mn_min, meetP]
  refine ih k (n + 1) _ (by omega) (by omega) (putV_okV ho h1 ?_) (by
   show (putV sR out (sR.id x) (min (sR.n x) (ofV sR b (sR.id x)))).length + d < 5000
   omega) (by omega)
  have h3' : x.f1 ≤ 1048576 := h3
  omega
theorem ref_meet {a b : List SR} (ha : OkV sR a) (hb : OkV sR b) (h1 : a.length < 1000) (h2 : b.length < 1000) (k : Nat) (hk : 40000 < k) :
  ∃ r, cenotaphref03_Meet.f k a b = some r ∧ PV sR r ∧ (∀ i, ofV sR r i = min (ofV sR a i) (ofV sR b i)) ∧ r.length ≤ a.length := by
 obtain ⟨p, q, r⟩ := meetP_spec sR sR hb.toPV a [] PV.nil ha.toPV (fun x _ => ofV_nil _)
 refine ⟨meetP sR sR b [] a, ?_, p, fun i => ?_, by simpa using r⟩
 ·unfold cenotaphref03_Meet.f
  have := ref_meet_loop ha h1 h2 a.length k 0 [] (by omega) (by omega) OkV.nil (by simp; omega) (by omega)
  simpa using this
 ·rw [q, ofV_nil]
  have := ha.nonneg i
  have := hb.nonneg i
  omega
theorem rdOf_nat10 (l : List ByteArray) (n : Nat) : rdOf ByteArray.empty l (n : Int) = l.getD n ByteArray.empty := rfl
theorem ref_stable_loop10 {m : List SN} (h : OkM tR sR m) (hm : m.length < 1000) {q : Nat} (hq : LenN q m) (hq2 : q < 1000) (l : List ByteArray) (hl : l.length < 100000) (d : Nat) : ∀ (k n : Nat) (out : List SR), l.length - n = d → n ≤ l.length → 0 < n → IsStable sR (atM tR sR m) (l.take n) out → out.length ≤ q → d + 50000 < k →
  ∃ r, cenotaphref10_Stable.l0 k m l out (n : Int) = some r ∧ IsStable sR (atM tR sR m) l r ∧ r.length ≤ q := by
 induction d with
 | zero =>
  intro k n out hd hn hn0 hi ho hk
  obtain ⟨k, rfl⟩ : ∃ m, k = m + 1 := ⟨k - 1, by omega⟩
  simp only [cenotaphref10_Stable.l0]
  rw [if_neg (by omega)]
  rw [List.take_of_length_le (by omega)] at hi
  exact ⟨out, rfl, hi, ho⟩
 | succ d ih =>
  intro k n out hd hn hn0 hi ho hk
  obtain ⟨k, rfl⟩ : ∃ m, k = m + 1 := ⟨k - 1, by omega⟩
  simp only [cenotaphref10_Stable.l0]
  have hne : l.take n ≠ [] := fun e => by have := congrArg List.length e; rw [List.length_take, List.length_nil] at this; omega
  have hof := hq.of (l.getD n ByteArray.empty)
  obtain ⟨o, eo, o1, o2, o3⟩ := ref_meet hi.ok (h.ofR (l.getD n ByteArray.empty)) (by omega) (by omega) k (by omega)
  replace o1 := ok_min o1 hi.ok (h.ofR (l.getD n ByteArray.empty)) o2
  rw [if_pos (by omega), if_pos (by omega), rdOf_nat10, ref_of10 m _ (by omega) k (by omega), Option.bind_some, eo, Option.bind_some, wrap_nat (by omega)]
  refine ih k (n + 1) o (by omega) (by omega) (by omega) ?_ (by omega) (by omega)
  have ht : l.take (n + 1) = l.take n ++ [l.getD n ByteArray.empty] := by
   rw [List.take_add_one, List.getD_eq_getElem?_getD, List.getElem?_eq_getElem (by omega)]; rfl
  rw [ht]
  exact isStable_snoc hi hne o1 (fun i => o2 i)
theorem ref_stable10 {m : List SN} (h : OkM tR sR m) (hm : m.length < 1000) {q : Nat} (hq : LenN q m) (hq2 : q < 1000) (l : List ByteArray) (hl : l.length < 1000) (k : Nat) (hk : 60000 < k) :
  ∃ r, cenotaphref10_Stable.f k m l = some r ∧ IsStable sR (atM tR sR m) l r ∧ r.length ≤ q := by
 unfold cenotaphref10_Stable.f
 by_cases hl0 : (l.length : Int) < 1
 ·rw [if_pos hl0]
  have e : l = [] := List.eq_nil_of_length_eq_zero (by omega)
  exact ⟨[], rfl, ⟨OkV.nil, fun i n _ hh => absurd e hh, fun _ => rfl⟩, Nat.zero_le _⟩
 ·have hof := hq.of (l.getD 0 ByteArray.empty)
  have e0 : rdOf ByteArray.empty l 0 = l.getD 0 ByteArray.empty := rfl
  rw [if_neg hl0, Option.bind_some, if_pos (by omega), e0, ref_of10 m _ (by omega) k (by omega), Option.bind_some, if_pos (by rw [List.length_nil]; omega), List.nil_append]
  refine ref_stable_loop10 h hm hq hq2 l (by omega) (l.length - 1) k 1 _ rfl (by omega) (by omega) ?_ hof (by omega)
  have ht : l.take 1 = [l.getD 0 ByteArray.empty] := by
   cases l with
   | nil => simp at hl0
   | cons x t => rfl
  rw [ht]
  exact isStable_one (h.ofR _) fun i => rfl
theorem ref_same_loop10 (a b : List SN) (hl : a.length = b.length) (hs : a.length < 100000) {q : Nat} (hq : LenN q a) (hq2 : q < 100000) (d : Nat) : ∀ (k n : Nat), a.length - n = d → n ≤ a.length → d + q < k →
  cenotaphref10_Same.l0 k a b (n : Int) = some (decide (a.drop n = b.drop n)) := by
 induction d with
 | zero =>
  intro k n hd hn hk
  obtain ⟨k, rfl⟩ : ∃ m, k = m + 1 := ⟨k - 1, by omega⟩
  simp only [cenotaphref10_Same.l0]
  rw [if_neg (by omega), List.drop_eq_nil_of_le (by omega), List.drop_eq_nil_of_le (by omega)]; simp
 | succ d ih =>
  intro k n hd hn hk
  obtain ⟨k, rfl⟩ : ∃ m, k = m + 1 := ⟨k - 1, by omega⟩
  simp only [cenotaphref10_Same.l0]
  have hx := hq (a.getD n z25) (getD_mem (by omega) _)
  rw [if_pos (by omega), if_pos (by omega), if_pos (by omega), rdN, rdN, drop_getD a z25 n (by omega), drop_getD b z25 n (by omega), wrap_nat (by omega)]
  generalize a.getD n z25 = x at hx ⊢
  generalize b.getD n z25 = y
  have hxy : x = y ↔ x.f0 = y.f0 ∧ x.f1 = y.f1 := ⟨fun e => e ▸ ⟨rfl, rfl⟩, fun e => by obtain ⟨p, q⟩ := x; obtain ⟨s, t⟩ := y; obtain ⟨h1, h2⟩ := e; dsimp only at h1 h2; rw [h1, h2]⟩
  by_cases h : x.f0 = y.f0
  ·rw [if_pos (toL_eq.mpr h), ref_same3 x.f1 y.f1 (by omega) k (by omega), Option.bind_some]
   by_cases h2 : x.f1 = y.f1
   ·rw [if_pos (decide_eq_true h2), ih k (n + 1) (by omega) (by omega) (by omega)]
    congr 1
    rw [decide_eq_decide, List.cons.injEq]
    exact ⟨fun e => ⟨hxy.mpr ⟨h, h2⟩, e⟩, fun e => e.2⟩
   ·rw [if_neg (by rw [decide_eq_true_eq]; exact h2), decide_eq_false]
    rw [List.cons.injEq]
    exact fun e => h2 (hxy.mp e.1).2
  ·rw [if_neg (fun e => h (toL_eq.mp e)), decide_eq_false]
   rw [List.cons.injEq]
   exact fun e => h (hxy.mp e.1).1
theorem ref_same10 (a b : List SN) (hs : a.length < 100000) {q : Nat} (hq : LenN q a) (hq2 : q < 100000) (k : Nat) (hk : a.length + q < k) : cenotaphref10_Same.f k a b = some (decide (a = b)) := by
 unfold cenotaphref10_Same.f
 by_cases h : a.length = b.length
 ·rw [if_pos (by omega)]
  have := ref_same_loop10 a b h hs hq hq2 a.length k 0 (by omega) (by omega) hk
  simpa using this
 ·rw [if_neg (by omega), decide_eq_false (fun e => h (by rw [e]))]
theorem from_loop10 (l : List SM) (hl : l.length < 1000000) {q : Nat} (hq : LenM q l) (hq2 : q < 100000) (d : Nat) : ∀ (k n : Nat) (acc : List SN), l.length - n = d → n ≤ l.length → acc.length + d < 1000000 → d + q < k → cenotaphlaw10_From.l0 k l acc (n : Int) = some (acc ++ convM tA sA tR sR (l.drop n)) := by
 induction d with
 | zero =>
  intro k n acc hd hn ha hk
  obtain ⟨k, rfl⟩ : ∃ m, k = m + 1 := ⟨k - 1, by omega⟩
  simp only [cenotaphlaw10_From.l0]
  rw [if_neg (by omega), List.drop_eq_nil_of_le (by omega)]; simp [convM]
 | succ d ih =>
  intro k n acc hd hn ha hk
  obtain ⟨k, rfl⟩ : ∃ m, k = m + 1 := ⟨k - 1, by omega⟩
  simp only [cenotaphlaw10_From.l0]
  have hx := hq (l.getD n z50) (getD_mem (by omega) _)
  rw [if_pos (by omega), if_pos (by omega), rdM, from3 _ (by omega) k (by omega), Option.bind_some, if_pos (by omega), wrap_nat (by omega), ih k (n + 1) _ (by omega) (by omega) (by simp; omega) (by omega), drop_getD l z50 n (by omega), List.append_assoc]
  rfl
theorem from10 (l : List SM) (hl : l.length < 100000) {q : Nat} (hq : LenM q l) (hq2 : q < 100000) (k : Nat) (hk : l.length + q < k) : cenotaphlaw10_From.f k l = some (convM tA sA tR sR l) := by
 have := from_loop10 l (by omega) hq hq2 l.length k 0 [] (by omega) (by omega) (by simp; omega) hk
 simpa [cenotaphlaw10_From.f] using this
theorem LenM.conv {n : Nat} {m : List SM} (h : LenM n m) : LenN n (convM tA sA tR sR m) := fun y hy => by
 obtain ⟨x, hx, e⟩ := List.mem_map.mp hy
 rw [← e]
 show (convV sA sR x.f1).length ≤ n
 rw [convV_length]; exact h x hx
/-- The program's, told in the reference's words, is the reference's, if both say the same. -/
theorem from_is {x : List SM} {y : List SN} (hx : OkM tA sA x) (hy : OkM tR sR y) (h : ∀ a i, atM tA sA x a i = atM tR sR y a i) (hl : x.length < 10000) {q : Nat} (hq : LenM q x) (hq2 : q < 10000) (k : Nat) (hk : 30000 < k) :
  cenotaphlaw10_From.f k x = some y ∧ cenotaphref10_Same.f k y y = some true := by
 have e := conv_is (t2 := tR) (s2 := sR) hx hy h
 have hL := hq.conv
 rw [e] at hL
 have hlen := convM_length (t := tA) (s := sA) (t2 := tR) (s2 := sR) x
 rw [e] at hlen
 refine ⟨?_, ?_⟩
 ·rw [from10 x (by omega) hq (by omega) k (by omega), e]
 ·rw [ref_same10 y y (by omega) hL (by omega) k (by omega), decide_eq_true rfl]
theorem mat_merge {p : Nat} (hp : p < 10000) : ∀ (b m : List SM) (n : Nat), OkM tA sA b → LenM p b → OkM tA sA m → LenM n m → n + p * b.length < 100000 → m.length + b.length < 1000000 → ∀ k, p < k →
  ∃ r, mergeM k m b = some r ∧ IsMerge tA sA m (atM tA sA b) r ∧ LenM (n + p * b.length) r ∧ r.length ≤ m.length + b.length
 | [], m, n, hb, hbl, hm, hml, h1, h2, k, hk => ⟨m, rfl, isMerge_nil hm, hml.imp (by omega), by simp⟩
 | x :: b, m, n, hb, hbl, hm, hml, h1, h2, k, hk => by
  have hxl := hbl x (by simp)
  have e1 : p * (x :: b).length = p + p * b.length := by rw [List.length_cons, Nat.mul_succ]; omega
  have e2 : (x :: b).length = b.length + 1 := List.length_cons
  rw [e1] at h1
  rw [e2] at h2
  unfold mergeM
  rw [if_pos ⟨hml.okM (by omega) (by omega), by omega⟩]
  obtain ⟨o, ho, hI, hol⟩ := mat_put hm hml (by omega) x.f0 (hb.ok x (by simp)) hxl (by omega) k hk
  have ho' : mputF k m x.f0 x.f1 = some o := ho
  have hlen := hI.len
  obtain ⟨r, hr, hM, hrl, hrn⟩ := mat_merge hp b o (n + p) hb.tail (fun y hy => hbl y (by simp [hy])) hI.ok hol (by omega) (by omega) k hk
  rw [ho', Option.bind_some]
  exact ⟨r, hr, isMerge_step hb hm hI hM, hrl.imp (by omega), by omega⟩
theorem prog_merge {a b : List SM} (ha : OkM tA sA a) (hb : OkM tA sA b) {n p : Nat} (hn : LenM n a) (hp : LenM p b) (h1 : n + p * b.length < 100000) (hp2 : p < 10000) (h2 : a.length < 10000) (h3 : b.length < 10000) (k : Nat) (hk : p < k) :
  ∃ r, matrix_Merge.f k a b = some r ∧ IsMerge tA sA a (atM tA sA b) r ∧ LenM (n + p * b.length) r ∧ r.length ≤ a.length + b.length := by
 unfold matrix_Merge.f
 rw [if_pos (hn.okM (by omega) (by omega))]
 exact mat_merge hp2 b a n hb hp ha hn h1 (by omega) k hk
theorem vec_meet_loop {b : List SA} (hb : PV sA b) (hbl : b.length < 1000000) (l : List SA) (hll : l.length < 1000000) (d : Nat) : ∀ (k n : Nat) (acc : List SA), l.length - n = d → n ≤ l.length → acc.length + d < 1000000 → d < k →
  vec_Meet.l0 k b acc l (l.length : Int) (n : Int) = some (acc ++ meetV sA sA b (l.drop n)) := by
 induction d with
 | zero =>
  intro k n acc hd hn ha hk
  obtain ⟨k, rfl⟩ : ∃ m, k = m + 1 := ⟨k - 1, by omega⟩
  simp only [vec_Meet.l0]
  rw [if_neg (by omega), List.drop_eq_nil_of_le (by omega), meetV, List.append_nil]
 | succ d ih =>
  intro k n acc hd hn ha hk
  obtain ⟨k, rfl⟩ : ∃ m, k = m + 1 := ⟨k - 1, by omega⟩
  simp only [vec_Meet.l0]
  rw [if_pos (by omega), if_pos (by omega), if_pos (by omega), rdA, drop_getD l z67 n (by omega)]
  generalize l.getD n z67 = x
  rw [vec_of hb (by omega), Option.bind_some, mn_min, wrap_nat (by omega), meetV]
  by_cases hc : min x.f1 (ofV sA b x.f0) > 0
  ·rw [if_pos hc, if_pos (by omega), ih k (n + 1) _ (by omega) (by omega) (by simp; omega) (by omega), if_pos (show min (sA.n x) (ofV sA b (sA.id x)) > 0 from hc)]
   rw [List.append_assoc]; rfl
  ·rw [if_neg hc, ih k (n + 1) _ (by omega) (by omega) (by omega) (by omega), if_neg (show ¬ min (sA.n x) (ofV sA b (sA.id x)) > 0 from hc)]
theorem vec_meet {a b : List SA} (ha : OkV sA a) (hb : OkV sA b) (h1 : a.length < 100000) (h2 : b.length < 100000) (k : Nat) (hk : a.length < k) :
  ∃ r, vec_Meet.f k a b = some r ∧ OkV sA r ∧ (∀ i, ofV sA r i = min (ofV sA a i) (ofV sA b i)) ∧ r.length ≤ a.length := by
 obtain ⟨p, q, r⟩ := meetV_spec sA sA hb.toPV a ha.toPV
 refine ⟨meetV sA sA b a, ?_, OkV.of_PV p (fun i hi => ?_) (fun i => ?_), q, r⟩
 ·unfold vec_Meet.f
  have := vec_meet_loop hb.toPV (by omega) a (by omega) a.length k 0 [] (by omega) (by omega) (by simp; omega) hk
  simpa using this
 ·rw [q] at hi; exact ha.right_of (by omega)
 ·rw [q]; have := ha.le_of i; have := hb.le_of i; omega
theorem mat_stable_loop {m : List SM} (h : OkM tA sA m) {n : Nat} (hn : LenM n m) (hn2 : n < 100000) (k : Nat) (hk : n < k) : ∀ (l pre : List ByteArray) (out : List SA), pre ≠ [] → IsStable sA (atM tA sA m) pre out → out.length ≤ n →
  ∃ r, stF k m out l = some r ∧ IsStable sA (atM tA sA m) (pre ++ l) r ∧ r.length ≤ n
 | [], pre, out, hp, hI, hl => ⟨out, rfl, by rw [List.append_nil]; exact hI, hl⟩
 | a :: l, pre, out, hp, hI, hl => by
  have hof := hn.of a
  obtain ⟨o, ho, ho1, ho2, ho3⟩ := vec_meet hI.ok (h.ofR a) (by omega) (by omega) k (by omega)
  unfold stF
  rw [mat_of h, ho, Option.bind_some]
  obtain ⟨r, hr, hr1, hr2⟩ := mat_stable_loop h hn hn2 k hk l (pre ++ [a]) o (by simp) (isStable_snoc hI hp ho1 (fun i => ho2 i)) (by omega)
  rw [List.append_assoc] at hr1
  exact ⟨r, hr, hr1, hr2⟩
theorem mat_stable {m : List SM} (h : OkM tA sA m) {n : Nat} (hn : LenM n m) (hn2 : n < 100000) (k : Nat) (hk : n < k) (l : List ByteArray) :
  ∃ r, stableM k m l = some r ∧ IsStable sA (atM tA sA m) l r ∧ r.length ≤ n := by
 cases l with
 | nil => exact ⟨[], rfl, ⟨OkV.nil, fun i n _ h => absurd rfl h, fun _ => rfl⟩, Nat.zero_le _⟩
 | cons a l =>
  obtain ⟨r, hr, hr1, hr2⟩ := mat_stable_loop h hn hn2 k hk l [a] (ofR tA m a) (by simp) (isStable_one (h.ofR a) fun i => rfl) (hn.of a)
  refine ⟨r, ?_, hr1, hr2⟩
  show stF k m (ofM m a) l = some r
  rw [mat_of h]
  exact hr
theorem prog_stable {m : List SM} (h : OkM tA sA m) {n : Nat} (hn : LenM n m) (hn2 : n < 100000) (hm : m.length < 100000) (k : Nat) (hk : n < k) (l : List ByteArray) :
  ∃ r, matrix_Stable.f k m l = some r ∧ IsStable sA (atM tA sA m) l r ∧ r.length ≤ n := by
 unfold matrix_Stable.f
 rw [if_pos (hn.okM (by omega) (by omega))]
 exact mat_stable h hn hn2 k hk l
instance : DecidableEq SA := fun x y => decidable_of_iff (x.f0 = y.f0 ∧ x.f1 = y.f1) ⟨fun h => sA.ext h.1 h.2, fun e => e ▸ ⟨rfl, rfl⟩⟩
theorem at_ext {x y : SA} : (!((x.f0.toList == y.f0.toList)) || (!(x.f1 == y.f1))) = true ↔ x ≠ y := by
 rw [Bool.or_eq_true, Bool.not_eq_true', Bool.not_eq_true', beq_eq_false_iff_ne, beq_eq_false_iff_ne, ne_eq, toL_eq]
 cases x; cases y
 simp only [ne_eq, S67.mk.injEq]
 exact Classical.not_and_iff_not_or_not.symm
theorem vec_equal_loop (a b : List SA) (hl : a.length = b.length) (hs : a.length < 1000000) (d : Nat) : ∀ (k n : Nat), a.length - n = d → n ≤ a.length → d < k →
  vec_At_52.l0 k a b (a.length : Int) (n : Int) = some (decide (a.drop n = b.drop n)) := by
 induction d with
 | zero =>
  intro k n hd hn hk
  obtain ⟨k, rfl⟩ : ∃ m, k = m + 1 := ⟨k - 1, by omega⟩
  simp only [vec_At_52.l0]
  rw [if_neg (by omega), List.drop_eq_nil_of_le (by omega), List.drop_eq_nil_of_le (by omega)]; simp
 | succ d ih =>
  intro k n hd hn hk
  obtain ⟨k, rfl⟩ : ∃ m, k = m + 1 := ⟨k - 1, by omega⟩
  simp only [vec_At_52.l0]
  rw [if_pos (by omega), if_pos (by omega), if_pos (by omega), if_pos (by omega), rdA, rdA, drop_getD a z67 n (by omega), drop_getD b z67 n (by omega)]
  by_cases h : a.getD n z67 = b.getD n z67
  ·rw [if_neg (fun e => at_ext.mp e h), wrap_nat (by omega), ih k (n + 1) (by omega) (by omega) (by omega), h]
   congr 1
   rw [decide_eq_decide]; simp
  ·rw [if_pos (at_ext.mpr h)]
   congr 1
   symm
   rw [decide_eq_false_iff_not]
   intro e
   exact h (List.cons.inj e).1
theorem vec_same (a b : List SA) (hs : a.length < 1000000) (k : Nat) (hk : a.length < k) : vec_Same.f k a b = some (decide (a = b)) := by
 unfold vec_Same.f vec_At_52.f
 by_cases h : a.length = b.length
 ·rw [if_pos (by omega)]
  have := vec_equal_loop a b h hs a.length k 0 (by omega) (by omega) hk
  simp only [Int.natCast_zero, Int.cast_ofNat_Int, List.drop_zero] at this
  rw [this]; rfl
 ·rw [if_neg (by omega), Option.bind_some]
  congr 1
  symm
  rw [decide_eq_false_iff_not]
  intro e; subst e; exact h rfl
instance : DecidableEq SM := fun x y => if h : x.f0 = y.f0 ∧ x.f1 = y.f1 then .isTrue (by obtain ⟨a, b⟩ := x; obtain ⟨c, d⟩ := y; obtain ⟨h1, h2⟩ := h; dsimp only at h1 h2; rw [h1, h2]) else .isFalse (fun e => h (by rw [e]; exact ⟨rfl, rfl⟩))
theorem sameQ_is (x y : SM) {n : Nat} (hx : x.f1.length ≤ n) (hn : n < 100000) (k : Nat) (hk : n < k) : sameQ k x y = some (decide (x = y)) := by
 unfold sameQ
 by_cases h : x.f0 = y.f0
 ·rw [if_pos h, vec_same x.f1 y.f1 (by omega) k (by omega)]
  congr 1
  rw [decide_eq_decide]
  constructor
  ·intro h2; exact (tA.of_eq x).symm.trans ((by show tA.of x.f0 x.f1 = tA.of y.f0 y.f1; rw [h, h2]) : tA.of (tA.id x) (tA.v x) = _)
  ·intro e; rw [e]
 ·rw [if_neg h, decide_eq_false (fun e => h (by rw [e]))]
theorem prog_same (a b : List SM) {n : Nat} (ha : LenM n a) (hn : n < 100000) (k : Nat) (hk : n < k) : matrix_Same.f k a b = some (decide (a = b)) := by
 have hq : ∀ i, i < a.length → sameQ k (a.getD i z50) (b.getD i z50) = some (decide (a.getD i z50 = b.getD i z50)) := fun i hi => sameQ_is _ _ (ha _ (getD_mem hi _)) hn k hk
 unfold matrix_Same.f
 rw [if_pos (show sameAll k a b from fun i hi => by rw [hq i hi]; rfl)]
 congr 1
 unfold sameB
 by_cases hl : a.length = b.length
 ·rw [if_pos hl, Bool.eq_iff_iff, List.all_eq_true, decide_eq_true_eq]
  constructor
  ·intro h
   refine List.ext_getElem hl fun i h1 h2 => ?_
   have := h i (List.mem_range.mpr h1)
   rw [hq i h1, Option.getD_some, decide_eq_true_eq, getD_eq h1, getD_eq h2] at this
   exact this
  ·intro e i hi
   rw [hq i (List.mem_range.mp hi), Option.getD_some, e, decide_eq_true_eq]
 ·rw [if_neg hl, decide_eq_false (fun e => hl (by rw [e]))]
theorem rd_nat10 {α : Type} (d : α) (l : List α) (n : Nat) : rdOf d l (n : Int) = l.getD n d := rfl
theorem to_loop (l : List ByteArray) (hl : l.length < 8796093022208) (d : Nat) : ∀ (k n : Nat), l.length - n = d → n ≤ l.length → d < k → cenotaphlaw01_To.l0 k l (l.take n) (n : Int) = some l := by
 induction d with
 | zero =>
  intro k n hd hn hk
  obtain ⟨k, rfl⟩ : ∃ m, k = m + 1 := ⟨k - 1, by omega⟩
  simp only [cenotaphlaw01_To.l0]; rw [if_neg (by omega), List.take_of_length_le (by omega)]
 | succ d ih =>
  intro k n hd hn hk
  obtain ⟨k, rfl⟩ : ∃ m, k = m + 1 := ⟨k - 1, by omega⟩
  simp only [cenotaphlaw01_To.l0]
  rw [if_pos (by omega), if_pos (by omega), if_pos (by rw [List.length_take]; omega), rd_nat10, take_succ_getD _ _ _ (by omega), wrap_id (by omega) (by omega)]
  exact ih k (n + 1) (by omega) (by omega) (by omega)
theorem to_ok (l : List ByteArray) (hl : l.length < 8796093022208) (k : Nat) (hk : l.length < k) : cenotaphlaw01_To.f k l = some l := to_loop l hl l.length k 0 (by omega) (by omega) hk
theorem mn_take (n : Int) (hn : 0 ≤ n) {l : List ByteArray} (hl : l.length ≤ 9223372036854775807) : 0 ≤ mn (l.length : Int) n ∧ mn (l.length : Int) n ≤ (l.length : Int) ∧ mn (l.length : Int) n ≤ n := by
 unfold mn
 split <;> omega
theorem told10a : matrix_Put.f 20 [] ⟨#[48, 49]⟩ [⟨⟨#[48]⟩, 1⟩] = some [⟨⟨#[48, 49]⟩, [⟨⟨#[48]⟩, 1⟩]⟩] := rfl
theorem told10b : matrix_Put.f 20 [⟨⟨#[48, 49]⟩, [⟨⟨#[48]⟩, 1⟩]⟩] ⟨#[48]⟩ [⟨⟨#[48]⟩, 3⟩, ⟨⟨#[48, 49]⟩, 2⟩] = some [⟨⟨#[48]⟩, [⟨⟨#[48]⟩, 3⟩, ⟨⟨#[48, 49]⟩, 2⟩]⟩, ⟨⟨#[48, 49]⟩, [⟨⟨#[48]⟩, 1⟩]⟩] := rfl
theorem told10c : vec_Meet.f 20 [⟨⟨#[48]⟩, 3⟩, ⟨⟨#[48, 49]⟩, 2⟩] [⟨⟨#[48]⟩, 1⟩] = some [⟨⟨#[48]⟩, 1⟩] := by
 have h : vec_Meet.f 3 [⟨⟨#[48]⟩, 3⟩, ⟨⟨#[48, 49]⟩, 2⟩] [⟨⟨#[48]⟩, 1⟩] = some [⟨⟨#[48]⟩, 1⟩] := by
  simp only [vec_Meet.f, vec_Meet.l0, wrap64]
  rfl
 exact at_rounds (fun k => vec_Meet.mono _ _ k) (show 3 ≤ 20 by decide) h
theorem told10d : vec_Meet.f 20 [⟨⟨#[48]⟩, 3⟩, ⟨⟨#[48, 49]⟩, 2⟩] [] = some [] := by
 have h : vec_Meet.f 3 [⟨⟨#[48]⟩, 3⟩, ⟨⟨#[48, 49]⟩, 2⟩] [] = some [] := by
  simp only [vec_Meet.f, vec_Meet.l0, wrap64]
  rfl
 exact at_rounds (fun k => vec_Meet.mono _ _ k) (show 3 ≤ 20 by decide) h
abbrev tm : List S50 := [⟨⟨#[48]⟩, [⟨⟨#[48]⟩, 3⟩, ⟨⟨#[48, 49]⟩, 2⟩]⟩, ⟨⟨#[48, 49]⟩, [⟨⟨#[48]⟩, 1⟩]⟩]
theorem told10e : matrix_Stable.f 20 tm [⟨#[48]⟩, ⟨#[48, 49]⟩] = some [⟨⟨#[48]⟩, 1⟩] := by
 show (if okM tm then ((vec_Meet.f 20 (ofM tm ⟨#[48]⟩) (ofM tm ⟨#[48, 49]⟩)).bind fun o => some o) else none) = _
 rw [if_pos (by decide), show ofM tm ⟨#[48]⟩ = [⟨⟨#[48]⟩, 3⟩, ⟨⟨#[48, 49]⟩, 2⟩] from rfl, show ofM tm ⟨#[48, 49]⟩ = [⟨⟨#[48]⟩, 1⟩] from rfl, told10c]
 rfl
theorem told10f : matrix_Stable.f 20 tm [⟨#[48]⟩, ⟨#[48, 50]⟩] = some [] := by
 show (if okM tm then ((vec_Meet.f 20 (ofM tm ⟨#[48]⟩) (ofM tm ⟨#[48, 50]⟩)).bind fun o => some o) else none) = _
 rw [if_pos (by decide), show ofM tm ⟨#[48]⟩ = [⟨⟨#[48]⟩, 3⟩, ⟨⟨#[48, 49]⟩, 2⟩] from rfl, show ofM tm ⟨#[48, 50]⟩ = [] from rfl, told10d]
 rfl
theorem told10g : vec_Right.f 20 [⟨⟨#[48]⟩, 3⟩, ⟨⟨#[48, 49]⟩, 2⟩] = some true := by
 have h : vec_Right.f 3 [⟨⟨#[48]⟩, 3⟩, ⟨⟨#[48, 49]⟩, 2⟩] = some true := by
  simp only [vec_Right.f, vec_Right.l0, wrap64]
  rfl
 exact at_rounds (fun k => vec_Right.mono _ k) (show 3 ≤ 20 by decide) h
theorem told10h : vec_Right.f 20 [⟨⟨#[48]⟩, 1⟩] = some true := by
 have h : vec_Right.f 3 [⟨⟨#[48]⟩, 1⟩] = some true := by
  simp only [vec_Right.f, vec_Right.l0, wrap64]
  rfl
 exact at_rounds (fun k => vec_Right.mono _ k) (show 3 ≤ 20 by decide) h
theorem told10i : matrix_Right.f 20 tm = some true := by
 unfold matrix_Right.f rgM rgM
 rw [told10g, told10h]
 rfl
theorem told10j : vec_Same.f 20 [⟨⟨#[48]⟩, 3⟩, ⟨⟨#[48, 49]⟩, 2⟩] [⟨⟨#[48]⟩, 3⟩, ⟨⟨#[48, 49]⟩, 2⟩] = some true := by
 have h : vec_Same.f 4 [⟨⟨#[48]⟩, 3⟩, ⟨⟨#[48, 49]⟩, 2⟩] [⟨⟨#[48]⟩, 3⟩, ⟨⟨#[48, 49]⟩, 2⟩] = some true := by
  simp only [vec_Same.f, vec_At_52.f, vec_At_52.l0, wrap64, Lib.toList_data]
  rfl
 exact at_rounds (fun k => vec_Same.mono _ _ k) (show 4 ≤ 20 by decide) h
theorem told10_20 : cenotaphlaw10_told.f 20 = some true := by
 unfold cenotaphlaw10_told.f
 rw [Option.bind_some, told10a, Option.bind_some, told10b, Option.bind_some, told10e, Option.bind_some, told10f, Option.bind_some, told10i, Option.bind_some, show matrix_Of.f tm ⟨#[48]⟩ = some [⟨⟨#[48]⟩, 3⟩, ⟨⟨#[48, 49]⟩, 2⟩] from rfl, Option.bind_some, told10j]
 simp only [Lib.toList_data]
 rfl
theorem told10 (k : Nat) (hk : 20 ≤ k) : cenotaphlaw10_told.f k = some true := at_rounds (fun k => cenotaphlaw10_told.mono k) hk told10_20
theorem vec_within {a b : List SA} (ha : PV sA a) (hb : PV sA b) (h2 : b.length < 1000000) : ∃ r, vec_Within.f a b = some r ∧ (r = true ↔ within sA sA a b) := by
 unfold vec_Within.f
 rw [if_pos (by rw [List.all_eq_true]; intro x _; rw [vec_of hb (by omega)]; rfl)]
 refine ⟨_, rfl, ?_⟩
 rw [within_iff ha hb, Bool.not_eq_true', List.any_eq_false]
 constructor
 ·intro h x hx
  have := h x hx
  rw [vec_of hb (by omega), Option.getD_some, decide_eq_true_eq] at this
  show x.f1 ≤ ofV sA b x.f0
  omega
 ·intro h x hx
  have : x.f1 ≤ ofV sA b x.f0 := h x hx
  rw [vec_of hb (by omega), Option.getD_some, decide_eq_true_eq]
  omega
theorem stable_le {x m : List SM} (f : ByteArray → ByteArray → Int) (hm : ∀ a i, atM tA sA x a i ≤ atM tA sA m a i) {l : List ByteArray} {p q : List SA} (hp : IsStable sA (atM tA sA x) l p) (hq : IsStable sA (atM tA sA m) l q) : within sA sA p q := by
 intro i
 by_cases hl : l = []
 ·rw [hp.nil hl, hq.nil hl]; exact Int.le_refl _
 ·have h0 := hq.ok.nonneg i
  by_cases hn : 0 < ofV sA p i
  ·refine (hq.le i _ hn hl).mpr fun a ha => ?_
   have := (hp.le i _ hn hl).mp (Int.le_refl _) a ha
   have := hm a i
   omega
  ·omega
theorem MatrixMerges : cenotaphlaw10_MatrixMerges.Pure := by
 intro l0 l1 l2 hl0 hw0 hl1 hw1 hl2 hw2
 obtain ⟨a, ea, oka, a1, a2, eta, okx, x1, x2⟩ := fixed10 l0 80000 (by omega)
 obtain ⟨b, eb, okb, b1, b2, etb, oky, y1, y2⟩ := fixed10 l1 80000 (by omega)
 obtain ⟨t0, t1, t2⟩ := mn_take 12 (by omega) (l := l2) hl2
 refine ⟨80000, ?_⟩
 unfold cenotaphlaw10_MatrixMerges.f
 have hax : ∀ c i, atM tA sA (convM tR sR tA sA a) c i = atM tR sR a c i := fun c i => atM_conv a c i
 have hby : ∀ c i, atM tA sA (convM tR sR tA sA b) c i = atM tR sR b c i := fun c i => atM_conv b c i
 have bkx : convM tA sA tR sR (convM tR sR tA sA a) = a := convM_back a
 have bky : convM tA sA tR sR (convM tR sR tA sA b) = b := convM_back b
 have hlen : (l2.take (mn (l2.length : Int) 12).toNat).length ≤ 12 := by rw [List.length_take]; omega
 rw [ea, Option.bind_some, eb, Option.bind_some, if_pos t0, if_pos t1, eta, Option.bind_some, etb, Option.bind_some]
 generalize l2.take (mn (l2.length : Int) 12).toNat = l at hlen ⊢
 generalize convM tR sR tA sA a = x at okx x1 x2 hax bkx ⊢
 generalize convM tR sR tA sA b = y at oky y1 y2 hby bky ⊢
 have y96 := Nat.mul_le_mul_left 96 y1
 have x96 := Nat.mul_le_mul_left 96 x1
 obtain ⟨m, em, im, ml, mn_⟩ := prog_merge okx oky x2 y2 (by omega) (by omega) (by omega) (by omega) 80000 (by omega)
 have ml8 : LenM 864 m := ml.imp (by omega)
 obtain ⟨s, es, is_, sl⟩ := prog_stable im.ok ml8 (by omega) (by omega) 80000 (by omega) l
 obtain ⟨n, en, in_, nl, nn⟩ := ref_merge10 oka okb a1 b1 a2 b2 80000 (by omega)
 obtain ⟨f1, s1⟩ := from_is im.ok in_.ok (fun c i => by rw [im.at_, in_.at_, hax, hby]) (by omega) ml8 (by omega) 80000 (by omega)
 obtain ⟨m2, em2, im2, ml2, mn2⟩ := prog_merge oky okx y2 x2 (by omega) (by omega) (by omega) (by omega) 80000 (by omega)
 have hmm : m = m2 := OkM.ext im.ok im2.ok fun c i => by rw [im.at_, im2.at_]; omega
 have hss : decide (x = y) = decide (a = b) := by
  rw [decide_eq_decide]
  exact ⟨fun h => by rw [← bkx, ← bky, h], fun h => OkM.ext okx oky fun c i => by rw [hax, hby, h]⟩
 obtain ⟨r, er, ir, rl⟩ := ref_stable10 in_.ok (by omega) nl (by omega) l (by omega) 80000 (by omega)
 have hsr : convV sA sR s = r := by
  by_cases hl : l = []
  ·rw [is_.nil hl, ir.nil hl]; rfl
  ·refine same_as is_.ok.toPV ir.ok.toPV fun i => ?_
   have hat : ∀ c, atM tA sA m c i = atM tR sR n c i := fun c => by rw [im.at_, in_.at_, hax, hby]
   have h1 := is_.ok.nonneg i
   have h2 := ir.ok.nonneg i
   have k1 : ∀ v, 0 < v → (v ≤ ofV sA s i ↔ v ≤ ofV sR r i) := fun v hv => by
    rw [is_.le i v hv hl, ir.le i v hv hl]
    exact ⟨fun h c hc => by rw [← hat]; exact h c hc, fun h c hc => by rw [hat]; exact h c hc⟩
   by_cases p1 : 0 < ofV sA s i
   ·have q1 := (k1 _ p1).mp (Int.le_refl _)
    have q2 := (k1 (ofV sR r i) (by omega)).mpr (Int.le_refl _)
    omega
   ·by_cases p2 : 0 < ofV sR r i
    ·have q2 := (k1 _ p2).mpr (Int.le_refl _); omega
    ·omega
 obtain ⟨p, ep, ip, pl⟩ := prog_stable okx x2 (by omega) (by omega) 80000 (by omega) l
 obtain ⟨q, eq, iq, ql⟩ := prog_stable oky y2 (by omega) (by omega) 80000 (by omega) l
 obtain ⟨w1, ew1, hw1⟩ := vec_within ip.ok.toPV is_.ok.toPV (by omega)
 obtain ⟨w2, ew2, hw2⟩ := vec_within iq.ok.toPV is_.ok.toPV (by omega)
 have v1 : w1 = true := hw1.mpr (stable_le (atM tA sA m) (fun c i => by rw [im.at_]; omega) ip is_)
 have v2 : w2 = true := hw2.mpr (stable_le (atM tA sA m) (fun c i => by rw [im.at_]; omega) iq is_)
 rw [em, Option.bind_some, to_ok l (by omega) _ (by omega), Option.bind_some, es, Option.bind_some, told10 _ (by omega), Option.bind_some, if_pos rfl, f1, Option.bind_some, en, Option.bind_some, s1, Option.bind_some, if_pos rfl, em2, Option.bind_some, prog_same m m2 ml8 (by omega) _ (by omega), Option.bind_some, if_pos (decide_eq_true hmm),
  prog_same x y x2 (by omega) _ (by omega), Option.bind_some, ref_same10 a b (by omega) a2 (by omega) _ (by omega), Option.bind_some, hss, if_neg (by simp), from3 s (by omega) _ (by omega), Option.bind_some, Option.bind_some, er, Option.bind_some, hsr, ref_same3 r r (by omega) _ (by omega), Option.bind_some, if_pos (by simp), Option.bind_some, ep, Option.bind_some, ew1, Option.bind_some, if_pos v1, Option.bind_some, eq, Option.bind_some, ew2, Option.bind_some, v2]
end Go.Proofs.Ytoodahceejdbcaa.Pure
