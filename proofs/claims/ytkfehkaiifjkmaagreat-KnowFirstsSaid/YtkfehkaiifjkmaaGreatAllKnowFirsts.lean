/- KnowFirsts: of all Knows it is told how far each is without a hole; that is in it, and all of it, if nothing is beyond a hole; and what some ids' part is. No condition beyond the statement's own. -/
import Derived.Test.YtkfehkaiifjkmaaGreatOrd
import Derived.Test.YtkfehkaiifjkmaaGreatSrt
import Derived.Test.YtkfehkaiifjkmaaGreatOrdZ
import Derived.Test.YtkfehkaiifjkmaaGreatTl
import Derived.Test.YtkfehkaiifjkmaaGreatP4
import Derived.Test.YtkfehkaiifjkmaaGreatP2
import Derived.Test.YtkfehkaiifjkmaaGreatP7
import Derived.Test.YtkfehkaiifjkmaaGreatP5
import Derived.Test.YtkfehkaiifjkmaaGreatP6
import Derived.Test.YtkfehkaiifjkmaaGreatP3
import Derived.Test.YtkfehkaiifjkmaaGreatP9
import Derived.Test.YtkfehkaiifjkmaaGreatP10
import Derived.Test.YtkfehkaiifjkmaaGreatP0
import Derived.Test.YtkfehkaiifjkmaaGreatP8
import Derived.Test.YtkfehkaiifjkmaaGreatP11
import Derived.Test.YtkfehkaiifjkmaaGreatGoalKnowFirsts
namespace Go.Proofs.YtkfehkaiifjkmaaGreat
open Go.Sort
def ltB (x y : ByteArray) : Prop := cmpB x y < 0
instance (x y : ByteArray) : Decidable (ltB x y) := by unfold ltB; infer_instance
theorem ltB_one {x y : ByteArray} : ltB x y ↔ Lib.compareBytes x.data.toList y.data.toList = -1 := by
 unfold ltB cmpB
 rcases cmp_range x.data.toList y.data.toList with h | h | h <;> omega
theorem cmpB_zero {x y : ByteArray} : cmpB x y = 0 ↔ x = y := by
 unfold cmpB
 constructor
 ·intro h; exact bytes_ext (cmp_zero h)
 ·intro h; subst h; exact cmp_self _
theorem cmpB_neg (x y : ByteArray) : cmpB y x = - cmpB x y := cmp_neg _ _
theorem toB : TO ltB where
 irrefl x := by unfold ltB; rw [cmpB_zero.mpr rfl]; decide
 trans x y z h1 h2 := by rw [ltB_one] at *; exact cmp_lt_trans h1 h2
 tri x y := by
  unfold ltB
  have e := cmpB_neg x y
  by_cases h : cmpB x y = 0
  ·exact Or.inl (cmpB_zero.mp h)
  ·by_cases h2 : cmpB x y < 0
   ·exact Or.inr (Or.inl h2)
   ·exact Or.inr (Or.inr (by omega))
theorem gtB {x y : ByteArray} : cmpB x y > 0 ↔ ltB y x := by
 unfold ltB; have := cmpB_neg x y; omega
theorem sortB_le (x y : ByteArray) : (!(ltOf cmpB) y x) = true ↔ ¬ ltB y x := by
 rw [Bool.not_eq_true', ltB_false]; unfold ltB cmpB; omega
theorem unionB_sorted (l : List ByteArray) : (unionB l).Pairwise ltB := (sort_compact toB _ sortB_le l).1
theorem mem_unionB (l : List ByteArray) (x : ByteArray) : x ∈ unionB l ↔ x ∈ l := (sort_compact toB _ sortB_le l).2 x
theorem getD_mem {α : Type} {l : List α} {i : Nat} (h : i < l.length) (d : α) : l.getD i d ∈ l := by
 simp [List.getD, List.getElem?_eq_getElem h]
theorem getD_eq {α : Type} {l : List α} {i : Nat} (h : i < l.length) (d : α) : l.getD i d = l[i] := by
 simp [List.getD, List.getElem?_eq_getElem h]
end Go.Proofs.YtkfehkaiifjkmaaGreat
namespace Go.Proofs.YtkfehkaiifjkmaaGreat
set_option linter.unusedVariables false
section
variable {α κ : Type} {lt : κ → κ → Prop} {key : α → κ}
def KS (lt : κ → κ → Prop) (key : α → κ) (l : List α) : Prop := l.Pairwise (fun x y => lt (key x) (key y))
theorem KS.nil : KS lt key [] := List.Pairwise.nil
theorem KS.tail {x : α} {l : List α} (h : KS lt key (x :: l)) : KS lt key l := (List.pairwise_cons.mp h).2
theorem KS.head {x : α} {l : List α} (h : KS lt key (x :: l)) {y : α} (hy : y ∈ l) : lt (key x) (key y) := (List.pairwise_cons.mp h).1 y hy
theorem KS.inj (ht : TO lt) : ∀ {l : List α}, KS lt key l → ∀ {x y : α}, x ∈ l → y ∈ l → key x = key y → x = y
 | [], _, x, y, hx, _, _ => by cases hx
 | z :: l, h, x, y, hx, hy, e => by
  rcases List.mem_cons.mp hx with ex | hx
  ·rcases List.mem_cons.mp hy with ey | hy
   ·rw [ex, ey]
   ·have h1 := h.head hy
    rw [← ex, e] at h1
    exact absurd h1 (ht.irrefl _)
  ·rcases List.mem_cons.mp hy with ey | hy
   ·have h1 := h.head hx
    rw [← ey, e] at h1
    exact absurd h1 (ht.irrefl _)
   ·exact KS.inj ht h.tail hx hy e
theorem KS.unique (ht : TO lt) : ∀ {a b : List α}, KS lt key a → KS lt key b → (∀ x, x ∈ a ↔ x ∈ b) → a = b
 | [], [], _, _, _ => rfl
 | [], y :: b, _, _, he => by have := (he y).mpr (by simp); simp at this
 | x :: a, [], _, _, he => by have := (he x).mp (by simp); simp at this
 | x :: a, y :: b, ha, hb, he => by
  have hxy : x = y := by
   have h1 := (he x).mp (by simp)
   have h2 := (he y).mpr (by simp)
   rw [List.mem_cons] at h1 h2
   rcases h1 with h1 | h1
   ·exact h1
   ·rcases h2 with h2 | h2
    ·exact h2.symm
    ·exact (ht.asymm (ha.head h2) (hb.head h1)).elim
  subst hxy
  have : a = b := KS.unique ht ha.tail hb.tail fun z => by
   have hz := he z
   simp only [List.mem_cons] at hz
   constructor
   ·intro hm
    rcases hz.mp (Or.inr hm) with e | e
    ·subst e; exact (ht.irrefl _ (ha.head hm)).elim
    ·exact e
   ·intro hm
    rcases hz.mpr (Or.inr hm) with e | e
    ·subst e; exact (ht.irrefl _ (hb.head hm)).elim
    ·exact e
  rw [this]
section
variable [DecidableEq κ]
def getM (key : α → κ) (k : κ) : List α → Option α
 | [] => none
 | x :: t => if key x = k then some x else getM key k t
theorem getM_mem (k : κ) : ∀ {l : List α} {x : α}, getM key k l = some x → x ∈ l ∧ key x = k
 | [], x, h => by cases h
 | y :: t, x, h => by
  unfold getM at h
  by_cases e : key y = k
  ·rw [if_pos e] at h
   cases h
   exact ⟨by simp, e⟩
  ·rw [if_neg e] at h
   obtain ⟨a, b⟩ := getM_mem k h
   exact ⟨List.mem_cons_of_mem _ a, b⟩
theorem getM_none (k : κ) : ∀ {l : List α}, getM key k l = none ↔ ∀ x ∈ l, key x ≠ k
 | [] => by simp [getM]
 | y :: t => by
  unfold getM
  by_cases e : key y = k
  ·rw [if_pos e]
   constructor
   ·intro h; cases h
   ·intro h; exact absurd e (h y (by simp))
  ·rw [if_neg e, getM_none k, List.forall_mem_cons]
   exact ⟨fun h => ⟨e, h⟩, fun h => h.2⟩
theorem getM_some (ht : TO lt) {l : List α} (h : KS lt key l) (k : κ) (x : α) : getM key k l = some x ↔ x ∈ l ∧ key x = k := by
 constructor
 ·exact getM_mem k
 ·rintro ⟨hx, e⟩
  cases hg : getM key k l with
  | none => exact absurd e ((getM_none k).mp hg x hx)
  | some y =>
   obtain ⟨a, b⟩ := getM_mem k hg
   rw [h.inj ht a hx (b.trans e.symm)]
theorem KS.ext (ht : TO lt) {a b : List α} (ha : KS lt key a) (hb : KS lt key b) (h : ∀ k, getM key k a = getM key k b) : a = b :=
 KS.unique ht ha hb fun x => by
  have h1 := getM_some ht ha (key x) x
  have h2 := getM_some ht hb (key x) x
  rw [h (key x)] at h1
  constructor
  ·intro hx; exact (h2.mp (h1.mpr ⟨hx, rfl⟩)).1
  ·intro hx; exact (h1.mp (h2.mpr ⟨hx, rfl⟩)).1
def dropM (key : α → κ) (k : κ) (l : List α) : List α := l.filter fun x => decide (key x ≠ k)
theorem mem_dropM (k : κ) (l : List α) (x : α) : x ∈ dropM key k l ↔ x ∈ l ∧ key x ≠ k := by
 unfold dropM; rw [List.mem_filter, decide_eq_true_eq]
theorem dropM_KS {l : List α} (h : KS lt key l) (k : κ) : KS lt key (dropM key k l) := List.Pairwise.filter _ h
theorem dropM_length (k : κ) (l : List α) : (dropM key k l).length ≤ l.length := List.length_filter_le _ _
theorem getM_dropM (k k' : κ) : ∀ (l : List α), getM key k' (dropM key k l) = if k' = k then none else getM key k' l
 | [] => by simp [dropM, getM]
 | x :: t => by
  have ih := getM_dropM k k' t
  unfold dropM at ih ⊢
  by_cases e : key x = k
  ·rw [List.filter_cons_of_neg (by simp [e]), ih]
   by_cases e2 : k' = k
   ·rw [if_pos e2, if_pos e2]
   ·rw [if_neg e2, if_neg e2, getM, if_neg (by rw [e]; exact fun h => e2 h.symm)]
  ·rw [List.filter_cons_of_pos (by simp [e]), getM, ih]
   by_cases e2 : k' = k
   ·rw [if_pos e2, if_pos e2, if_neg (by rw [e2]; exact e)]
   ·rw [if_neg e2, if_neg e2, getM]
end
def putM [DecidableEq κ] (lt : κ → κ → Prop) [DecidableRel lt] (key : α → κ) (v : α) (l : List α) : List α := sink (fun u v => decide (lt (key v) (key u))) v (dropM key (key v) l)
theorem sinkR_KS (ht : TO lt) {gt : α → α → Bool} (v : α) : ∀ p q, (∀ u, u ∈ p → (gt u v = true ↔ lt (key v) (key u))) → (∀ u ∈ p, key u ≠ key v) → KS lt key (p.reverse ++ q) → (∀ u ∈ q, lt (key v) (key u)) → KS lt key (sinkR gt v p q)
 | [], q, hg, hn, hs, hv => by
  unfold KS at hs ⊢
  rw [sinkR, List.pairwise_cons]; exact ⟨hv, by simpa using hs⟩
 | u :: p, q, hg, hn, hs, hv => by
  unfold sinkR
  split
  ·rename_i hgt
   refine sinkR_KS ht v p (u :: q) (fun u hu => hg u (List.mem_cons_of_mem _ hu)) (fun w hw => hn w (List.mem_cons_of_mem _ hw)) (by simpa using hs) ?_
   intro w hw
   rcases List.mem_cons.mp hw with e | e
   ·subst e; exact (hg w (by simp)).mp hgt
   ·exact hv w e
  ·rename_i hgt
   have hlt : lt (key u) (key v) := by
    rcases ht.tri (key u) (key v) with e | e | e
    ·exact absurd e (hn u (by simp))
    ·exact e
    ·exact absurd ((hg u (by simp)).mpr e) hgt
   unfold KS at hs ⊢
   rw [List.pairwise_append] at hs ⊢
   refine ⟨hs.1, ?_, ?_⟩
   ·rw [List.pairwise_cons]; exact ⟨hv, hs.2.1⟩
   ·intro a ha b hb
    rcases List.mem_cons.mp hb with e | e
    ·subst e
     rw [List.mem_reverse, List.mem_cons] at ha
     rcases ha with e | e
     ·subst e; exact hlt
     ·have h1 := hs.1
      rw [List.reverse_cons, List.pairwise_append] at h1
      exact ht.trans _ _ _ (h1.2.2 a (by simpa using e) u (by simp)) hlt
    ·exact hs.2.2 a ha b e
theorem sink_KS (ht : TO lt) {gt : α → α → Bool} (v : α) (l : List α) (hg : ∀ u, u ∈ l → (gt u v = true ↔ lt (key v) (key u))) (hn : ∀ u ∈ l, key u ≠ key v) (hs : KS lt key l) : KS lt key (sink gt v l) := by
 unfold sink
 exact sinkR_KS ht v _ _ (fun u hu => hg u (by simpa using hu)) (fun u hu => hn u (by simpa using hu)) (by simpa using hs) (by simp)
section
variable [DecidableEq κ] [DecidableRel lt]
theorem mem_putM (v : α) (l : List α) (x : α) : x ∈ putM lt key v l ↔ x = v ∨ (x ∈ l ∧ key x ≠ key v) := by
 unfold putM; rw [mem_sink, mem_dropM]
theorem putM_KS (ht : TO lt) (v : α) {l : List α} (h : KS lt key l) : KS lt key (putM lt key v l) :=
 sink_KS ht v _ (fun u _ => by rw [decide_eq_true_eq]) (fun u hu => ((mem_dropM _ _ _).mp hu).2) (dropM_KS h _)
theorem putM_length (v : α) (l : List α) : (putM lt key v l).length ≤ l.length + 1 := by
 unfold putM; rw [sink_length]; have := dropM_length (key := key) (key v) l; omega
theorem getM_putM (ht : TO lt) (v : α) {l : List α} (h : KS lt key l) (k : κ) : getM key k (putM lt key v l) = if k = key v then some v else getM key k l := by
 have hp := putM_KS ht v h
 by_cases e : k = key v
 ·rw [if_pos e]
  exact (getM_some ht hp k v).mpr ⟨(mem_putM v l v).mpr (Or.inl rfl), e.symm⟩
 ·rw [if_neg e]
  cases hg : getM key k l with
  | none =>
   rw [getM_none] at hg ⊢
   intro x hx
   rcases (mem_putM v l x).mp hx with ex | ⟨hx, _⟩
   ·rw [ex]; exact fun h => e h.symm
   ·exact hg x hx
  | some y =>
   obtain ⟨a, b⟩ := getM_mem k hg
   exact (getM_some ht hp k y).mpr ⟨(mem_putM v l y).mpr (Or.inr ⟨a, by rw [b]; exact e⟩), b⟩
theorem putM_parts (ht : TO lt) (v : α) {p q : List α} (h : KS lt key (p ++ q)) (hp : ∀ x ∈ p, lt (key x) (key v)) (hq : ∀ x ∈ q, lt (key v) (key x)) : p ++ v :: q = putM lt key v (p ++ q) := by
 refine KS.unique ht ?_ (putM_KS ht v h) fun x => ?_
 ·unfold KS at h ⊢
  rw [List.pairwise_append] at h ⊢
  refine ⟨h.1, List.pairwise_cons.mpr ⟨hq, h.2.1⟩, fun a ha b hb => ?_⟩
  rcases List.mem_cons.mp hb with e | e
  ·subst e; exact hp a ha
  ·exact h.2.2 a ha b e
 ·rw [mem_putM, List.mem_append, List.mem_cons, List.mem_append]
  constructor
  ·rintro (hx | hx | hx)
   ·exact Or.inr ⟨Or.inl hx, fun e => ht.irrefl _ (e ▸ hp x hx)⟩
   ·exact Or.inl hx
   ·exact Or.inr ⟨Or.inr hx, fun e => ht.irrefl _ (e ▸ hq x hx)⟩
  ·rintro (hx | ⟨hx | hx, _⟩)
   ·exact Or.inr (Or.inl hx)
   ·exact Or.inl hx
   ·exact Or.inr (Or.inr hx)
theorem putM_set (ht : TO lt) (v : α) {l : List α} (h : KS lt key l) {i : Nat} (hi : i < l.length) (he : key l[i] = key v) : l.set i v = putM lt key v l := by
 have hk : ∀ j (hj : j < l.length), j ≠ i → key l[j] ≠ key v := by
  intro j hj hne e
  have hpw := List.pairwise_iff_getElem.mp h
  rcases Nat.lt_or_gt_of_ne hne with hlt | hlt
  ·have := hpw j i hj hi hlt
   rw [e, he] at this
   exact ht.irrefl _ this
  ·have := hpw i j hi hj hlt
   rw [e, he] at this
   exact ht.irrefl _ this
 refine KS.unique ht ?_ (putM_KS ht v h) fun x => ?_
 ·unfold KS
  rw [List.pairwise_iff_getElem]
  intro a b ha hb hab
  have ha' : a < l.length := by simpa using ha
  have hb' : b < l.length := by simpa using hb
  have hpw := List.pairwise_iff_getElem.mp h
  rw [List.getElem_set, List.getElem_set]
  by_cases e1 : i = a
  ·subst e1
   rw [if_pos rfl, if_neg (by omega), ← he]
   exact hpw _ _ _ _ hab
  ·rw [if_neg e1]
   by_cases e2 : i = b
   ·subst e2
    rw [if_pos rfl, ← he]
    exact hpw _ _ _ _ hab
   ·rw [if_neg e2]
    exact hpw _ _ _ _ hab
 ·rw [mem_putM]
  constructor
  ·intro hx
   obtain ⟨j, hj, e⟩ := List.mem_iff_getElem.mp hx
   rw [List.getElem_set] at e
   by_cases e1 : i = j
   ·rw [if_pos e1] at e; exact Or.inl e.symm
   ·rw [if_neg e1] at e
    have hj' : j < l.length := by simpa using hj
    refine Or.inr ⟨e ▸ List.getElem_mem _, ?_⟩
    rw [← e]; exact hk j hj' (fun h => e1 h.symm)
  ·rintro (e | ⟨hx, hne⟩)
   ·subst e; exact List.mem_iff_getElem.mpr ⟨i, by simpa using hi, by simp⟩
   ·obtain ⟨j, hj, e⟩ := List.mem_iff_getElem.mp hx
    have hij : i ≠ j := by
     intro e1; subst e1
     rw [e] at he; exact hne he
    exact List.mem_iff_getElem.mpr ⟨j, by simpa using hj, by rw [List.getElem_set, if_neg hij]; exact e⟩
end
end
theorem find_spec {α : Type} {key : α → ByteArray} {l : List α} (d : α) (h : KS ltB key l) (a : ByteArray) :
  (bsB (fun i => cmpB (key (l.getD i d)) a) l.length = true → ∃ hi : bsN (fun i => cmpB (key (l.getD i d)) a) l.length < l.length, key l[bsN (fun i => cmpB (key (l.getD i d)) a) l.length] = a ∧ getM key a l = some l[bsN (fun i => cmpB (key (l.getD i d)) a) l.length]) ∧
  (bsB (fun i => cmpB (key (l.getD i d)) a) l.length = false → getM key a l = none ∧ bsN (fun i => cmpB (key (l.getD i d)) a) l.length ≤ l.length ∧
   (∀ x ∈ l.take (bsN (fun i => cmpB (key (l.getD i d)) a) l.length), ltB (key x) a) ∧ ∀ x ∈ l.drop (bsN (fun i => cmpB (key (l.getD i d)) a) l.length), ltB a (key x)) := by
 generalize hc : (fun i => cmpB (key (l.getD i d)) a) = c
 have hcv : ∀ i (hi : i < l.length), c i = cmpB (key l[i]) a := by
  intro i hi; rw [← hc]; show cmpB (key (l.getD i d)) a = _; rw [getD_eq hi]
 have hpw := List.pairwise_iff_getElem.mp h
 have hm : ∀ i j, i < j → j < l.length → c j < 0 → c i < 0 := by
  intro i j hij hj hcj
  rw [hcv j hj] at hcj
  rw [hcv i (by omega)]
  exact toB.trans _ _ _ (hpw i j (by omega) hj hij) hcj
 have hz : ∀ i j, i < j → j < l.length → c j = 0 → c i < 0 := by
  intro i j hij hj hcj
  rw [hcv j hj] at hcj
  rw [hcv i (by omega), ← cmpB_zero.mp hcj]
  exact hpw i j (by omega) hj hij
 obtain ⟨s1, s2, s3⟩ := bsN_spec c l.length hm
 constructor
 ·intro hb
  have hb' := hb
  unfold bsB at hb'
  rw [Bool.and_eq_true, decide_eq_true_eq, decide_eq_true_eq] at hb'
  have hk : key l[bsN c l.length] = a := by
   have := hb'.2
   rw [hcv _ hb'.1] at this
   exact cmpB_zero.mp this
  exact ⟨hb'.1, hk, (getM_some toB h a _).mpr ⟨List.getElem_mem _, hk⟩⟩
 ·intro hb
  have hb' : ¬ ∃ i, i < l.length ∧ c i = 0 := by
   rw [← bsB_iff c l.length hm hz, hb]; simp
  refine ⟨?_, s1, ?_, ?_⟩
  ·rw [getM_none]
   intro x hx e
   obtain ⟨i, hi, e2⟩ := List.mem_iff_getElem.mp hx
   exact hb' ⟨i, hi, by rw [hcv i hi, e2, e]; exact cmpB_zero.mpr rfl⟩
  ·intro x hx
   obtain ⟨i, hi, e⟩ := List.mem_iff_getElem.mp hx
   rw [List.length_take] at hi
   rw [List.getElem_take] at e
   have := s2 i (by omega)
   rw [hcv i (by omega), e] at this
   exact this
  ·intro x hx
   obtain ⟨i, hi, e⟩ := List.mem_iff_getElem.mp hx
   rw [List.length_drop] at hi
   rw [List.getElem_drop] at e
   have h1 := s3 (bsN c l.length + i) (by omega) (by omega)
   have h2 : c (bsN c l.length + i) ≠ 0 := fun h => hb' ⟨_, by omega, h⟩
   rw [hcv _ (by omega), e] at h1 h2
   exact gtB.mp (by omega)
end Go.Proofs.YtkfehkaiifjkmaaGreat
namespace Go.Proofs.YtkfehkaiifjkmaaGreat
def memS (u : Int) (e : List Int) (n : Int) : Prop := (1 ≤ n ∧ n ≤ u) ∨ n ∈ e
instance (u : Int) (e : List Int) (n : Int) : Decidable (memS u e n) := by unfold memS; infer_instance
structure OkS (u : Int) (e : List Int) : Prop where
 lo : 0 ≤ u
 up : u ≤ 1048576
 sort : e.Pairwise (fun x y : Int => x < y)
 gap : ∀ x ∈ e, u + 1 < x
 hi : ∀ x ∈ e, x ≤ 1048576
theorem OkS.nil {u : Int} (h0 : 0 ≤ u) (h1 : u ≤ 1048576) : OkS u [] := ⟨h0, h1, List.Pairwise.nil, by simp, by simp⟩
theorem OkS.mem_pos {u : Int} {e : List Int} (h : OkS u e) {n : Int} (hm : memS u e n) : 1 ≤ n ∧ n ≤ 1048576 := by
 rcases hm with hm | hm
 ·exact ⟨hm.1, Int.le_trans hm.2 h.up⟩
 ·have := h.gap n hm; have := h.hi n hm; have := h.lo; omega
theorem okS_unique {u1 u2 : Int} {e1 e2 : List Int} (h1 : OkS u1 e1) (h2 : OkS u2 e2) (h : ∀ n, memS u1 e1 n ↔ memS u2 e2 n) : u1 = u2 ∧ e1 = e2 := by
 have key : ∀ {u1 u2 : Int} {e1 e2 : List Int}, OkS u1 e1 → OkS u2 e2 → (∀ n, memS u1 e1 n ↔ memS u2 e2 n) → ¬ u1 < u2 := by
  intro u1 u2 e1 e2 h1 h2 h hlt
  have hm : memS u2 e2 (u1 + 1) := Or.inl ⟨by have := h1.lo; omega, by omega⟩
  rcases (h _).mpr hm with hx | hx
  ·omega
  ·have := h1.gap _ hx; omega
 have hu : u1 = u2 := by
  have a := key h1 h2 h
  have b := key h2 h1 fun n => (h n).symm
  omega
 subst hu
 refine ⟨rfl, ssort_unique toZ h1.sort h2.sort fun x => ?_⟩
 constructor
 ·intro hx
  rcases (h x).mp (Or.inr hx) with hy | hy
  ·have := h1.gap x hx; omega
  ·exact hy
 ·intro hx
  rcases (h x).mpr (Or.inr hx) with hy | hy
  ·have := h2.gap x hx; omega
  ·exact hy
def foldZ (u : Int) : List Int → Int × List Int
 | [] => (u, [])
 | x :: t => if x ≤ u + 1 then foldZ (if u < x then x else u) t else (u, x :: t)
theorem foldZ_spec : ∀ (l : List Int) (u : Int), 0 ≤ u → u ≤ 1048576 → l.Pairwise (fun x y : Int => x < y) → (∀ x ∈ l, 1 ≤ x ∧ x ≤ 1048576) →
  OkS (foldZ u l).1 (foldZ u l).2 ∧ (∀ n, memS (foldZ u l).1 (foldZ u l).2 n ↔ memS u l n) ∧ (foldZ u l).2.length ≤ l.length
 | [], u, h0, h1, _, _ => ⟨OkS.nil h0 h1, fun _ => Iff.rfl, Nat.le_refl _⟩
 | x :: t, u, h0, h1, hs, hm => by
  have hx := hm x (by simp)
  rw [List.pairwise_cons] at hs
  unfold foldZ
  by_cases hc : x ≤ u + 1
  ·rw [if_pos hc]
   obtain ⟨a, b, c⟩ := foldZ_spec t (if u < x then x else u) (by split <;> omega) (by split <;> omega) hs.2 fun y hy => hm y (by simp [hy])
   refine ⟨a, fun n => (b n).trans ?_, Nat.le_trans c (by simp)⟩
   unfold memS
   rw [List.mem_cons]
   by_cases hux : u < x
   ·rw [if_pos hux]
    constructor
    ·rintro (h | h)
     ·by_cases hn : n ≤ u
      ·exact Or.inl ⟨h.1, hn⟩
      ·exact Or.inr (Or.inl (by omega))
     ·exact Or.inr (Or.inr h)
    ·rintro (h | h | h)
     ·exact Or.inl ⟨h.1, by omega⟩
     ·exact Or.inl ⟨by omega, by omega⟩
     ·exact Or.inr h
   ·rw [if_neg hux]
    constructor
    ·rintro (h | h)
     ·exact Or.inl h
     ·exact Or.inr (Or.inr h)
    ·rintro (h | h | h)
     ·exact Or.inl h
     ·exact Or.inl ⟨by omega, by omega⟩
     ·exact Or.inr h
  ·rw [if_neg hc]
   refine ⟨⟨h0, h1, ?_, ?_, fun y hy => (hm y hy).2⟩, fun _ => Iff.rfl, Nat.le_refl _⟩
   ·rw [List.pairwise_cons]; exact hs
   ·intro y hy
    rcases List.mem_cons.mp hy with e | e
    ·subst e; omega
    ·have := hs.1 y e; omega
def unionS (u1 : Int) (e1 : List Int) (u2 : Int) (e2 : List Int) : Int × List Int := foldZ (if u1 < u2 then u2 else u1) (unionZ (e1 ++ e2))
theorem unionS_spec {u1 u2 : Int} {e1 e2 : List Int} (h1 : OkS u1 e1) (h2 : OkS u2 e2) :
  OkS (unionS u1 e1 u2 e2).1 (unionS u1 e1 u2 e2).2 ∧ (∀ n, memS (unionS u1 e1 u2 e2).1 (unionS u1 e1 u2 e2).2 n ↔ memS u1 e1 n ∨ memS u2 e2 n) ∧ (unionS u1 e1 u2 e2).2.length ≤ e1.length + e2.length := by
 have a := h1.lo; have b := h1.up; have c := h2.lo; have d := h2.up
 obtain ⟨x, y, z⟩ := foldZ_spec (unionZ (e1 ++ e2)) (if u1 < u2 then u2 else u1) (by split <;> omega) (by split <;> omega) (unionZ_sorted _) fun n hn => by
  rw [mem_unionZ, List.mem_append] at hn
  rcases hn with hn | hn
  ·exact h1.mem_pos (Or.inr hn)
  ·exact h2.mem_pos (Or.inr hn)
 refine ⟨x, fun n => (y n).trans ?_, Nat.le_trans z (Nat.le_trans (unionZ_length _) (by simp))⟩
 unfold memS
 rw [mem_unionZ, List.mem_append]
 by_cases hu : u1 < u2
 ·rw [if_pos hu]
  constructor
  ·rintro (h | h | h)
   ·exact Or.inr (Or.inl h)
   ·exact Or.inl (Or.inr h)
   ·exact Or.inr (Or.inr h)
  ·rintro ((h | h) | (h | h))
   ·exact Or.inl ⟨h.1, by omega⟩
   ·exact Or.inr (Or.inl h)
   ·exact Or.inl h
   ·exact Or.inr (Or.inr h)
 ·rw [if_neg hu]
  constructor
  ·rintro (h | h | h)
   ·exact Or.inl (Or.inl h)
   ·exact Or.inl (Or.inr h)
   ·exact Or.inr (Or.inr h)
  ·rintro ((h | h) | (h | h))
   ·exact Or.inl h
   ·exact Or.inr (Or.inl h)
   ·exact Or.inl ⟨h.1, by omega⟩
   ·exact Or.inr (Or.inr h)
theorem addS_spec {u : Int} {e : List Int} (h : OkS u e) {n : Int} (h0 : 1 ≤ n) (h1 : n ≤ 1048576) :
  OkS (unionS u e 0 [n]).1 (unionS u e 0 [n]).2 ∧ (∀ m, memS (unionS u e 0 [n]).1 (unionS u e 0 [n]).2 m ↔ memS u e m ∨ m = n) ∧ (unionS u e 0 [n]).2.length ≤ e.length + 1 := by
 have a := h.lo; have b := h.up
 have hu : (if u < 0 then 0 else u) = u := if_neg (by omega)
 obtain ⟨x, y, z⟩ := foldZ_spec (unionZ (e ++ [n])) u a b (unionZ_sorted _) fun m hm => by
  rw [mem_unionZ, List.mem_append, List.mem_singleton] at hm
  rcases hm with hm | hm
  ·exact h.mem_pos (Or.inr hm)
  ·omega
 unfold unionS
 rw [hu]
 refine ⟨x, fun m => (y m).trans ?_, Nat.le_trans z (Nat.le_trans (unionZ_length _) (by simp))⟩
 unfold memS
 rw [mem_unionZ, List.mem_append, List.mem_singleton]
 constructor
 ·rintro (h | h | h)
  ·exact Or.inl (Or.inl h)
  ·exact Or.inl (Or.inr h)
  ·exact Or.inr h
 ·rintro ((h | h) | h)
  ·exact Or.inl h
  ·exact Or.inr (Or.inl h)
  ·exact Or.inr (Or.inr h)
end Go.Proofs.YtkfehkaiifjkmaaGreat
namespace Go.Proofs.YtkfehkaiifjkmaaGreat
set_option linter.unusedVariables false
section
structure RoN (ρ : Type) where
 id : ρ → ByteArray
 u : ρ → Int
 e : ρ → List Int
 of : ByteArray → Int → List Int → ρ
 id_of : ∀ a m l, id (of a m l) = a
 u_of : ∀ a m l, u (of a m l) = m
 e_of : ∀ a m l, e (of a m l) = l
 of_eq : ∀ x, of (id x) (u x) (e x) = x
variable {ρ σ : Type}
def ofN (t : RoN ρ) (m : List ρ) (a : ByteArray) : Int × List Int := match getM t.id a m with | some x => (t.u x, t.e x) | none => (0, [])
structure OkN (t : RoN ρ) (m : List ρ) : Prop where
 ks : KS ltB t.id m
 ok : ∀ x ∈ m, OkS (t.u x) (t.e x)
 ne : ∀ x ∈ m, ∃ n, memS (t.u x) (t.e x) n
 right : ∀ x ∈ m, rightB (t.id x) = true
variable {t : RoN ρ} {t2 : RoN σ}
theorem OkN.nil : OkN t [] := ⟨KS.nil, by simp, by simp, by simp⟩
theorem ofN_nil (a : ByteArray) : ofN t [] a = (0, []) := rfl
theorem ofN_cons (x : ρ) (l : List ρ) (a : ByteArray) : ofN t (x :: l) a = if t.id x = a then (t.u x, t.e x) else ofN t l a := by
 unfold ofN
 rw [getM]
 by_cases h : t.id x = a
 ·rw [if_pos h, if_pos h]
 ·rw [if_neg h, if_neg h]
theorem ofN_cases (t : RoN ρ) (m : List ρ) (a : ByteArray) : (∃ x ∈ m, t.id x = a ∧ ofN t m a = (t.u x, t.e x) ∧ getM t.id a m = some x) ∨ ((∀ x ∈ m, t.id x ≠ a) ∧ ofN t m a = (0, []) ∧ getM t.id a m = none) := by
 unfold ofN
 cases hg : getM t.id a m with
 | none => exact Or.inr ⟨(getM_none a).mp hg, rfl, rfl⟩
 | some x =>
  obtain ⟨p, q⟩ := getM_mem a hg
  exact Or.inl ⟨x, p, q, rfl, rfl⟩
theorem OkN.ofN {m : List ρ} (h : OkN t m) (a : ByteArray) : OkS (ofN t m a).1 (ofN t m a).2 := by
 rcases ofN_cases t m a with ⟨x, hx, _, e, _⟩ | ⟨_, e, _⟩
 ·rw [e]; exact h.ok x hx
 ·rw [e]; exact OkS.nil (by decide) (by decide)
def memN (t : RoN ρ) (m : List ρ) (a : ByteArray) (n : Int) : Prop := memS (ofN t m a).1 (ofN t m a).2 n
instance (t : RoN ρ) (m : List ρ) (a : ByteArray) (n : Int) : Decidable (memN t m a n) := by unfold memN; infer_instance
theorem memS_none (n : Int) : ¬ memS 0 [] n := by unfold memS; rintro (h | h); omega; cases h
theorem memN_nil (a : ByteArray) (n : Int) : ¬ memN t [] a n := memS_none n
theorem memN_cons {x : ρ} {l : List ρ} (h : OkN t (x :: l)) (a : ByteArray) (n : Int) : memN t (x :: l) a n ↔ (a = t.id x ∧ memS (t.u x) (t.e x) n) ∨ memN t l a n := by
 unfold memN
 rw [ofN_cons]
 by_cases e : t.id x = a
 ·rw [if_pos e]
  rcases ofN_cases t l a with ⟨y, hy, e1, _, _⟩ | ⟨_, e2, _⟩
  ·have := h.ks.head hy
   rw [e1, e] at this
   exact absurd this (toB.irrefl _)
  ·rw [e2]
   exact ⟨fun hh => Or.inl ⟨e.symm, hh⟩, fun hh => hh.elim (fun h => h.2) (fun h => absurd h (memS_none n))⟩
 ·rw [if_neg e]
  exact ⟨Or.inr, fun hh => hh.elim (fun h => absurd h.1.symm e) id⟩
theorem memN_ex {m : List ρ} {a : ByteArray} {n : Int} (h : memN t m a n) : ∃ x ∈ m, t.id x = a ∧ ofN t m a = (t.u x, t.e x) := by
 rcases ofN_cases t m a with ⟨x, hx, e1, e, _⟩ | ⟨_, e, _⟩
 ·exact ⟨x, hx, e1, e⟩
 ·unfold memN at h; rw [e] at h; exact absurd h (memS_none n)
theorem OkN.right_of {m : List ρ} (h : OkN t m) {a : ByteArray} {n : Int} (hm : memN t m a n) : rightB a = true := by
 obtain ⟨x, hx, e, _⟩ := memN_ex hm
 rw [← e]; exact h.right x hx
theorem OkN.pos {m : List ρ} (h : OkN t m) {a : ByteArray} {n : Int} (hm : memN t m a n) : 1 ≤ n ∧ n ≤ 1048576 := (h.ofN a).mem_pos hm
theorem OkN.get {m : List ρ} (h : OkN t m) {x : ρ} (hx : x ∈ m) : Go.Proofs.YtkfehkaiifjkmaaGreat.ofN t m (t.id x) = (t.u x, t.e x) := by
 unfold Go.Proofs.YtkfehkaiifjkmaaGreat.ofN
 rw [(getM_some toB h.ks (t.id x) x).mpr ⟨hx, rfl⟩]
theorem OkN.mem {m : List ρ} (h : OkN t m) {x : ρ} (hx : x ∈ m) (n : Int) : memN t m (t.id x) n ↔ memS (t.u x) (t.e x) n := by
 unfold memN; rw [h.get hx]
theorem OkN.tail {x : ρ} {m : List ρ} (h : OkN t (x :: m)) : OkN t m := ⟨h.ks.tail, fun y hy => h.ok y (by simp [hy]), fun y hy => h.ne y (by simp [hy]), fun y hy => h.right y (by simp [hy])⟩
theorem OkN.sub {m m' : List ρ} (h : OkN t m) (hs : m'.Sublist m) : OkN t m' := ⟨List.Pairwise.sublist hs h.ks, fun y hy => h.ok y (hs.mem hy), fun y hy => h.ne y (hs.mem hy), fun y hy => h.right y (hs.mem hy)⟩
theorem OkN.ext {a b : List ρ} (ha : OkN t a) (hb : OkN t b) (h : ∀ i n, memN t a i n ↔ memN t b i n) : a = b := by
 refine KS.ext toB ha.ks hb.ks fun k => ?_
 have hv := okS_unique (ha.ofN k) (hb.ofN k) (h k)
 rcases ofN_cases t a k with ⟨x, hx, e1, e2, e3⟩ | ⟨_, e2, e3⟩
 ·rcases ofN_cases t b k with ⟨y, hy, f1, f2, f3⟩ | ⟨_, f2, f3⟩
  ·rw [e2, f2] at hv
   rw [e3, f3, ← t.of_eq x, ← t.of_eq y, e1, f1]
   dsimp only at hv
   rw [hv.1, hv.2]
  ·obtain ⟨n, hn⟩ := ha.ne x hx
   have := (h k n).mp (by unfold memN; rw [e2]; exact hn)
   unfold memN at this
   rw [f2] at this
   exact absurd this (memS_none n)
 ·rcases ofN_cases t b k with ⟨y, hy, f1, f2, f3⟩ | ⟨_, f2, f3⟩
  ·obtain ⟨n, hn⟩ := hb.ne y hy
   have := (h k n).mpr (by unfold memN; rw [f2]; exact hn)
   unfold memN at this
   rw [e2] at this
   exact absurd this (memS_none n)
  ·rw [e3, f3]
theorem OkN.put {m : List ρ} (h : OkN t m) {a : ByteArray} (ha : rightB a = true) {u : Int} {e : List Int} (hw : OkS u e) (hn : ∃ n, memS u e n) : OkN t (putM ltB t.id (t.of a u e) m) := by
 refine ⟨putM_KS toB _ h.ks, fun x hx => ?_, fun x hx => ?_, fun x hx => ?_⟩ <;> rcases (mem_putM _ _ _).mp hx with e | ⟨hx, _⟩
 ·rw [e, t.u_of, t.e_of]; exact hw
 ·exact h.ok x hx
 ·rw [e, t.u_of, t.e_of]; exact hn
 ·exact h.ne x hx
 ·rw [e, t.id_of]; exact ha
 ·exact h.right x hx
theorem ofN_put {m : List ρ} (h : KS ltB t.id m) (a : ByteArray) (u : Int) (e : List Int) (b : ByteArray) : ofN t (putM ltB t.id (t.of a u e) m) b = if b = a then (u, e) else ofN t m b := by
 unfold ofN
 rw [getM_putM toB _ h, t.id_of]
 by_cases hc : b = a
 ·rw [if_pos hc, if_pos hc]; show (t.u (t.of a u e), t.e (t.of a u e)) = _; rw [t.u_of, t.e_of]
 ·rw [if_neg hc, if_neg hc]
theorem OkN.drop {m : List ρ} (h : OkN t m) (a : ByteArray) : OkN t (dropM t.id a m) :=
 ⟨dropM_KS h.ks a, fun x hx => h.ok x ((mem_dropM _ _ _).mp hx).1, fun x hx => h.ne x ((mem_dropM _ _ _).mp hx).1, fun x hx => h.right x ((mem_dropM _ _ _).mp hx).1⟩
theorem ofN_drop (a b : ByteArray) (m : List ρ) : ofN t (dropM t.id a m) b = if b = a then (0, []) else ofN t m b := by
 unfold ofN
 rw [getM_dropM]
 by_cases e : b = a
 ·rw [if_pos e, if_pos e]
 ·rw [if_neg e, if_neg e]
theorem memN_drop (a b : ByteArray) (m : List ρ) (n : Int) : memN t (dropM t.id a m) b n ↔ b ≠ a ∧ memN t m b n := by
 unfold memN
 rw [ofN_drop]
 by_cases e : b = a
 ·rw [if_pos e]; exact ⟨fun h => absurd h (memS_none n), fun h => absurd e h.1⟩
 ·rw [if_neg e]; exact ⟨fun h => ⟨e, h⟩, fun h => h.2⟩
structure IsAdd (t : RoN ρ) (m : List ρ) (a : ByteArray) (f : Int → Prop) (r : List ρ) : Prop where
 ok : OkN t r
 mem : ∀ b n, memN t r b n ↔ memN t m b n ∨ (b = a ∧ f n)
 len : r.length ≤ m.length + 1
theorem isAdd_put {m : List ρ} (h : OkN t m) (a : ByteArray) {f : Int → Prop} {u : Int} {e : List Int} (hw : OkS u e) (hf : ∀ n, memS u e n ↔ memN t m a n ∨ f n) (ha : rightB a = true) (hn : ∃ n, memS u e n) : IsAdd t m a f (putM ltB t.id (t.of a u e) m) := by
 refine ⟨h.put ha hw hn, fun b n => ?_, putM_length _ _⟩
 unfold memN
 rw [ofN_put h.ks]
 by_cases e : b = a
 ·rw [if_pos e, hf, e]
  exact or_congr Iff.rfl ⟨fun h => ⟨rfl, h⟩, fun h => h.2⟩
 ·rw [if_neg e]
  exact ⟨Or.inl, fun hh => hh.elim id (fun h => absurd h.1 e)⟩
theorem isAdd_none {m : List ρ} (h : OkN t m) (a : ByteArray) {f : Int → Prop} (hf : ∀ n, f n → memN t m a n) : IsAdd t m a f m :=
 ⟨h, fun b n => ⟨Or.inl, fun hh => hh.elim id (fun h => by rw [h.1]; exact hf n h.2)⟩, Nat.le_succ _⟩
def convN (t : RoN ρ) (t2 : RoN σ) (m : List ρ) : List σ := m.map fun x => t2.of (t.id x) (t.u x) (t.e x)
theorem ofN_conv (a : ByteArray) : ∀ m : List ρ, ofN t2 (convN t t2 m) a = ofN t m a
 | [] => rfl
 | x :: m => by
  have := ofN_conv a m
  unfold convN at this ⊢
  rw [List.map_cons, ofN_cons, ofN_cons, t2.id_of, t2.u_of, t2.e_of, this]
theorem memN_conv (m : List ρ) (a : ByteArray) (n : Int) : memN t2 (convN t t2 m) a n ↔ memN t m a n := by
 unfold memN; rw [ofN_conv]
theorem convN_ok {m : List ρ} (h : OkN t m) : OkN t2 (convN t t2 m) := by
 refine ⟨?_, fun y hy => ?_, fun y hy => ?_, fun y hy => ?_⟩
 ·unfold KS convN
  rw [List.pairwise_map]
  exact h.ks.imp fun {x y} hxy => by rw [t2.id_of, t2.id_of]; exact hxy
 ·obtain ⟨x, hx, e⟩ := List.mem_map.mp hy
  rw [← e, t2.u_of, t2.e_of]; exact h.ok x hx
 ·obtain ⟨x, hx, e⟩ := List.mem_map.mp hy
  rw [← e, t2.u_of, t2.e_of]; exact h.ne x hx
 ·obtain ⟨x, hx, e⟩ := List.mem_map.mp hy
  rw [← e, t2.id_of]; exact h.right x hx
theorem convN_length (m : List ρ) : (convN t t2 m).length = m.length := by simp [convN]
theorem convN_is {x : List ρ} {y : List σ} (hx : OkN t x) (hy : OkN t2 y) (h : ∀ a n, memN t x a n ↔ memN t2 y a n) : convN t t2 x = y :=
 OkN.ext (convN_ok hx) hy fun a n => (memN_conv x a n).trans (h a n)
def LimN (t : RoN ρ) (q : Nat) (m : List ρ) : Prop := ∀ x ∈ m, (t.e x).length ≤ q
def LowN (t : RoN ρ) (c : Int) (m : List ρ) : Prop := ∀ a n, memN t m a n → n ≤ c
theorem LimN.nil {q : Nat} : LimN t q [] := fun _ h => by cases h
theorem LimN.imp {q q' : Nat} {m : List ρ} (h : LimN t q m) (hq : q ≤ q') : LimN t q' m := fun x hx => Nat.le_trans (h x hx) hq
theorem LimN.of {q : Nat} {m : List ρ} (h : LimN t q m) (a : ByteArray) : (ofN t m a).2.length ≤ q := by
 rcases ofN_cases t m a with ⟨x, hx, _, e, _⟩ | ⟨_, e, _⟩
 ·rw [e]; exact h x hx
 ·rw [e]; exact Nat.zero_le _
theorem LimN.conv {q : Nat} {m : List ρ} (h : LimN t q m) : LimN t2 q (convN t t2 m) := fun y hy => by
 obtain ⟨x, hx, e⟩ := List.mem_map.mp hy
 rw [← e, t2.e_of]; exact h x hx
theorem LimN.sub {q : Nat} {m m' : List ρ} (h : LimN t q m) (hs : ∀ x ∈ m', x ∈ m) : LimN t q m' := fun x hx => h x (hs x hx)
theorem LimN.put {q : Nat} {m : List ρ} (h : LimN t q m) (a : ByteArray) (u : Int) {e : List Int} (he : e.length ≤ q) : LimN t q (putM ltB t.id (t.of a u e) m) := fun x hx => by
 rcases (mem_putM _ _ _).mp hx with e | ⟨hx, _⟩
 ·rw [e, t.e_of]; exact he
 ·exact h x hx
theorem LowN.conv {c : Int} {m : List ρ} (h : LowN t c m) : LowN t2 c (convN t t2 m) := fun a n hn => h a n ((memN_conv m a n).mp hn)
theorem LowN.row {c : Int} {m : List ρ} (h : LowN t c m) (hok : OkN t m) (hc : 0 ≤ c) {x : ρ} (hx : x ∈ m) : t.u x ≤ c := by
 by_cases h1 : 1 ≤ t.u x
 ·exact h (t.id x) (t.u x) ((hok.mem hx _).mpr (Or.inl ⟨h1, Int.le_refl _⟩))
 ·omega
theorem okS_some {u : Int} {e : List Int} (h : OkS u e) : (∃ n, memS u e n) ↔ 1 ≤ u + (e.length : Int) := by
 have h0 := h.lo
 constructor
 ·rintro ⟨n, hn | hn⟩
  ·omega
  ·have := List.length_pos_of_mem hn; omega
 ·intro hh
  by_cases hu : 1 ≤ u
  ·exact ⟨1, Or.inl ⟨by omega, hu⟩⟩
  ·cases e with
   | nil => simp at hh; omega
   | cons x l => exact ⟨x, Or.inr (by simp)⟩
def cntN (t : RoN ρ) : List ρ → Int
 | [] => 0
 | x :: l => t.u x + ((t.e x).length : Int) + cntN t l
def extN (t : RoN ρ) : List ρ → Int
 | [] => 0
 | x :: l => ((t.e x).length : Int) + extN t l
def subN (t : RoN ρ) (a b : List ρ) : Prop := ∀ i n, memN t a i n → memN t b i n
theorem subN_rows {a b : List ρ} (ha : OkN t a) : subN t a b ↔ ∀ x ∈ a, ∀ n, memS (t.u x) (t.e x) n → memN t b (t.id x) n := by
 constructor
 ·intro h x hx n hn
  exact h _ _ ((ha.mem hx n).mpr hn)
 ·intro h i n hn
  obtain ⟨x, hx, e, ho⟩ := memN_ex hn
  unfold memN at hn
  rw [ho] at hn
  rw [← e]
  exact h x hx n hn
end
end Go.Proofs.YtkfehkaiifjkmaaGreat
namespace Go.Proofs.YtkfehkaiifjkmaaGreat
set_option linter.unusedVariables false
section
variable {α β : Type}
structure AtS (α : Type) where
 id : α → ByteArray
 n : α → Int
 of : ByteArray → Int → α
 id_of : ∀ a n, id (of a n) = a
 n_of : ∀ a m, n (of a m) = m
 of_eq : ∀ x, of (id x) (n x) = x
theorem AtS.ext (s : AtS α) {x y : α} (h1 : s.id x = s.id y) (h2 : s.n x = s.n y) : x = y := by
 rw [← s.of_eq x, ← s.of_eq y, h1, h2]
def ofV (s : AtS α) (l : List α) (a : ByteArray) : Int := match getM s.id a l with | some x => s.n x | none => 0
structure PV (s : AtS α) (l : List α) : Prop where
 ks : KS ltB s.id l
 pos : ∀ x ∈ l, 1 ≤ s.n x
structure OkV (s : AtS α) (l : List α) : Prop extends PV s l where
 right : ∀ x ∈ l, rightB (s.id x) = true
 le : ∀ x ∈ l, s.n x ≤ 1048576
variable {s : AtS α}
theorem PV.nil : PV s [] := ⟨KS.nil, by simp⟩
theorem OkV.nil : OkV s [] := ⟨PV.nil, by simp, by simp⟩
theorem ofV_cons (x : α) (l : List α) (a : ByteArray) : ofV s (x :: l) a = if s.id x = a then s.n x else ofV s l a := by
 unfold ofV
 rw [getM]
 by_cases h : s.id x = a
 ·rw [if_pos h, if_pos h]
 ·rw [if_neg h, if_neg h]
theorem ofV_mem {l : List α} (h : PV s l) {x : α} (hx : x ∈ l) : ofV s l (s.id x) = s.n x := by
 unfold ofV
 rw [(getM_some toB h.ks (s.id x) x).mpr ⟨hx, rfl⟩]
theorem ofV_cases (l : List α) (a : ByteArray) : (∃ x ∈ l, s.id x = a ∧ ofV s l a = s.n x) ∨ ((∀ x ∈ l, s.id x ≠ a) ∧ ofV s l a = 0) := by
 unfold ofV
 cases hg : getM s.id a l with
 | none => exact Or.inr ⟨(getM_none a).mp hg, rfl⟩
 | some x =>
  obtain ⟨p, q⟩ := getM_mem a hg
  exact Or.inl ⟨x, p, q, rfl⟩
theorem PV.nonneg {l : List α} (h : PV s l) (a : ByteArray) : 0 ≤ ofV s l a := by
 rcases ofV_cases (s := s) l a with ⟨x, hx, _, e⟩ | ⟨_, e⟩
 ·rw [e]; have := h.pos x hx; omega
 ·rw [e]; exact Int.le_refl _
theorem OkV.le_of {l : List α} (h : OkV s l) (a : ByteArray) : ofV s l a ≤ 1048576 := by
 rcases ofV_cases (s := s) l a with ⟨x, hx, _, e⟩ | ⟨_, e⟩
 ·rw [e]; exact h.le x hx
 ·rw [e]; omega
theorem OkV.right_of {l : List α} (h : OkV s l) {a : ByteArray} (ha : 0 < ofV s l a) : rightB a = true := by
 rcases ofV_cases (s := s) l a with ⟨x, hx, e1, e⟩ | ⟨_, e⟩
 ·rw [← e1]; exact h.right x hx
 ·omega
theorem PV.pos_iff {l : List α} (h : PV s l) (a : ByteArray) : 0 < ofV s l a ↔ ∃ x ∈ l, s.id x = a := by
 rcases ofV_cases (s := s) l a with ⟨x, hx, e1, e⟩ | ⟨hn, e⟩
 ·rw [e]; exact ⟨fun _ => ⟨x, hx, e1⟩, fun _ => by have := h.pos x hx; omega⟩
 ·rw [e]; exact ⟨fun h => by omega, fun ⟨x, hx, e1⟩ => absurd e1 (hn x hx)⟩
theorem PV.ext {a b : List α} (ha : PV s a) (hb : PV s b) (h : ∀ i, ofV s a i = ofV s b i) : a = b := by
 have key : ∀ {a b : List α}, PV s a → PV s b → (∀ i, ofV s a i = ofV s b i) → ∀ x, x ∈ a → x ∈ b := by
  intro a b ha hb h x hx
  have h1 := ofV_mem ha hx
  rw [h] at h1
  rcases ofV_cases (s := s) b (s.id x) with ⟨y, hy, e1, e⟩ | ⟨_, e⟩
  ·rw [h1] at e
   rw [s.ext e1.symm e]; exact hy
  ·rw [h1] at e; have := ha.pos x hx; omega
 exact KS.unique toB ha.ks hb.ks fun x => ⟨key ha hb h x, key hb ha (fun i => (h i).symm) x⟩
theorem OkV.of_PV {l : List α} (h : PV s l) (hr : ∀ a, 0 < ofV s l a → rightB a = true) (hl : ∀ a, ofV s l a ≤ 1048576) : OkV s l :=
 ⟨h, fun x hx => hr _ ((h.pos_iff _).mpr ⟨x, hx, rfl⟩), fun x hx => by rw [← ofV_mem h hx]; exact hl _⟩
theorem ofV_drop (a i : ByteArray) (l : List α) : ofV s (dropM s.id a l) i = if i = a then 0 else ofV s l i := by
 unfold ofV
 rw [getM_dropM]
 by_cases h : i = a
 ·rw [if_pos h, if_pos h]
 ·rw [if_neg h, if_neg h]
theorem PV.drop {l : List α} (h : PV s l) (a : ByteArray) : PV s (dropM s.id a l) := ⟨dropM_KS h.ks a, fun x hx => h.pos x ((mem_dropM _ _ _).mp hx).1⟩
theorem OkV.drop {l : List α} (h : OkV s l) (a : ByteArray) : OkV s (dropM s.id a l) := ⟨h.toPV.drop a, fun x hx => h.right x ((mem_dropM _ _ _).mp hx).1, fun x hx => h.le x ((mem_dropM _ _ _).mp hx).1⟩
def putV (s : AtS α) (l : List α) (a : ByteArray) (m : Int) : List α := if m < 1 then dropM s.id a l else putM ltB s.id (s.of a m) l
theorem putV_PV {l : List α} (h : PV s l) (a : ByteArray) (m : Int) : PV s (putV s l a m) := by
 unfold putV
 by_cases hm : m < 1
 ·rw [if_pos hm]; exact h.drop a
 ·rw [if_neg hm]
  refine ⟨putM_KS toB _ h.ks, fun x hx => ?_⟩
  rcases (mem_putM _ _ _).mp hx with e | ⟨hx, _⟩
  ·rw [e, s.n_of]; omega
  ·exact h.pos x hx
theorem ofV_put {l : List α} (h : PV s l) (a i : ByteArray) (m : Int) : ofV s (putV s l a m) i = if i = a then (if m < 1 then 0 else m) else ofV s l i := by
 unfold putV
 by_cases hm : m < 1
 ·rw [if_pos hm, if_pos hm, ofV_drop]
 ·rw [if_neg hm, if_neg hm]
  unfold ofV
  rw [getM_putM toB _ h.ks, s.id_of]
  by_cases e : i = a
  ·rw [if_pos e, if_pos e]; exact s.n_of _ _
  ·rw [if_neg e, if_neg e]
theorem putV_length (l : List α) (a : ByteArray) (m : Int) : (putV s l a m).length ≤ l.length + 1 := by
 unfold putV
 split
 ·have := dropM_length (key := s.id) a l; omega
 ·exact putM_length _ _
def setV (s : AtS α) (l : List α) (a : ByteArray) (m : Int) : List α := if rightB a = true ∧ 1 ≤ m then putV s l a (max (ofV s l a) (min m 1048576)) else l
theorem ofV_set {l : List α} (h : PV s l) (a i : ByteArray) (m : Int) : ofV s (setV s l a m) i = if i = a ∧ rightB a = true ∧ 1 ≤ m then max (ofV s l a) (min m 1048576) else ofV s l i := by
 unfold setV
 by_cases hc : rightB a = true ∧ 1 ≤ m
 ·rw [if_pos hc, ofV_put h]
  have := h.nonneg a
  by_cases e : i = a
  ·rw [if_pos e, if_neg (show ¬ (max (ofV s l a) (min m 1048576) < 1) by omega), if_pos ⟨e, hc⟩]
  ·rw [if_neg e, if_neg (fun h => e h.1)]
 ·rw [if_neg hc, if_neg (fun h => hc h.2)]
theorem setV_PV {l : List α} (h : PV s l) (a : ByteArray) (m : Int) : PV s (setV s l a m) := by
 unfold setV
 split
 ·exact putV_PV h _ _
 ·exact h
theorem setV_ok {l : List α} (h : OkV s l) (a : ByteArray) (m : Int) : OkV s (setV s l a m) := by
 refine OkV.of_PV (setV_PV h.toPV a m) (fun i hi => ?_) fun i => ?_
 ·rw [ofV_set h.toPV] at hi
  by_cases hc : i = a ∧ rightB a = true ∧ 1 ≤ m
  ·rw [hc.1]; exact hc.2.1
  ·rw [if_neg hc] at hi; exact h.right_of hi
 ·rw [ofV_set h.toPV]
  have h1 := h.le_of a
  have h2 := h.le_of i
  split <;> omega
theorem setV_length (l : List α) (a : ByteArray) (m : Int) : (setV s l a m).length ≤ l.length + 1 := by
 unfold setV
 split
 ·exact putV_length _ _ _
 ·omega
def convV (s : AtS α) (t : AtS β) (l : List α) : List β := l.map fun x => t.of (s.id x) (s.n x)
theorem ofV_conv (s : AtS α) (t : AtS β) (i : ByteArray) : ∀ l : List α, ofV t (convV s t l) i = ofV s l i
 | [] => rfl
 | x :: l => by
  have := ofV_conv s t i l
  unfold convV at this ⊢
  rw [List.map_cons, ofV_cons, ofV_cons, t.id_of, t.n_of, this]
theorem convV_PV (s : AtS α) (t : AtS β) {l : List α} (h : PV s l) : PV t (convV s t l) := by
 refine ⟨?_, fun y hy => ?_⟩
 ·unfold KS convV
  rw [List.pairwise_map]
  exact h.ks.imp fun {x y} hxy => by rw [t.id_of, t.id_of]; exact hxy
 ·obtain ⟨x, hx, e⟩ := List.mem_map.mp hy
  rw [← e, t.n_of]; exact h.pos x hx
theorem convV_ok (s : AtS α) (t : AtS β) {l : List α} (h : OkV s l) : OkV t (convV s t l) := by
 refine OkV.of_PV (convV_PV s t h.toPV) (fun i hi => ?_) fun i => ?_
 ·rw [ofV_conv] at hi; exact h.right_of hi
 ·rw [ofV_conv]; exact h.le_of i
theorem convV_length (s : AtS α) (t : AtS β) (l : List α) : (convV s t l).length = l.length := by simp [convV]
def afterB : Option ByteArray → ByteArray → Bool
 | none, _ => true
 | some a, b => decide (cmpB a b < 0)
end
end Go.Proofs.YtkfehkaiifjkmaaGreat
namespace Go.Proofs.YtkfehkaiifjkmaaGreat.Pure
open Go.RowKit Go.Proofs.YtkfehkaiifjkmaaGreat Go.Proofs.YtkfehkaiifjkmaaGreat.P Go.Proofs.YtkfehkaiifjkmaaGreatW.PrintWords Go.Proofs.YtkfehkaiifjkmaaGreatW.PrintLast
set_option linter.unusedVariables false
set_option linter.unusedSimpArgs false
theorem bt_get (a : ByteArray) (n : Nat) (h : n < a.size) : bt a (n : Int) = ((a.data.toList.getD n 0).toNat : Int) := by
 unfold bt
 have e : ((n : Int)).toNat = n := Int.toNat_natCast n
 simp only [e, dif_pos h]
 have h2 : n < a.data.toList.length := by simpa using h
 have : a.data.toList.getD n 0 = a.data.toList[n]'h2 := by simp [List.getD, List.getElem?_eq_getElem h2]
 rw [this]; simp; rfl
theorem size_list (a : ByteArray) : a.size = a.data.toList.length := by simp
theorem drop_cons (l : List UInt8) (n : Nat) (h : n < l.length) : l.drop n = l.getD n 0 :: l.drop (n + 1) := by
 rw [List.drop_eq_getElem_cons h]; simp [List.getD, List.getElem?_eq_getElem h]
theorem cmp_cons (x y : UInt8) (a b : List UInt8) : Lib.compareBytes (x :: a) (y :: b) = if x < y then -1 else if y < x then 1 else Lib.compareBytes a b := rfl
theorem ref_compare_loop (a b : ByteArray) (ha : a.size ≤ 9223372036854775807) (d : Nat) : ∀ (k n : Nat), a.size - n = d → n ≤ a.size → n ≤ b.size → 2 * d + 1 < k →
  cenotaphref01_Compare.l0 k a b (n : Int) = some (Lib.compareBytes (a.data.toList.drop n) (b.data.toList.drop n)) := by
 have sa := size_list a; have sb := size_list b
 induction d with
 | zero =>
  intro k n hd hn hb hk
  obtain ⟨k, rfl⟩ : ∃ m, k = m + 2 := ⟨k - 2, by omega⟩
  have e1 : a.data.toList.drop n = [] := List.drop_eq_nil_of_le (by omega)
  simp only [cenotaphref01_Compare.l0]; rw [if_neg (by omega)]
  simp only [cenotaphref01_Compare.j1]; rw [if_neg (by simp), e1]
  by_cases h : n < b.size
  ·rw [if_pos (by omega), drop_cons _ _ (by omega)]; rfl
  ·rw [if_neg (by omega), if_neg (by omega), List.drop_eq_nil_of_le (by omega)]; rfl
 | succ d ih =>
  intro k n hd hn hb hk
  obtain ⟨k, rfl⟩ : ∃ m, k = m + 2 := ⟨k - 2, by omega⟩
  have hlt : n < a.size := by omega
  simp only [cenotaphref01_Compare.l0]; rw [if_pos (by omega)]
  simp only [cenotaphref01_Compare.j1]
  rw [drop_cons a.data.toList n (by omega)]
  by_cases h : n < b.size
  ·have hw := ih k (n + 1) (by omega) (by omega) (by omega) (by omega)
   simp only [Int.natCast_add, Int.cast_ofNat_Int] at hw
   rw [decide_eq_true (by omega), if_pos rfl, if_pos (by omega), if_pos (by omega), if_pos (by omega), bt_get a n hlt, bt_get b n h, drop_cons b.data.toList n (by omega), wrap_id (by omega) (by omega), hw]
   generalize a.data.toList.getD n 0 = x
   generalize b.data.toList.getD n 0 = y
   rw [cmp_cons]
   by_cases h1 : x < y
   ·have : (x.toNat : Int) < y.toNat := by have := UInt8.lt_iff_toNat_lt.mp h1; omega
    rw [if_pos this, if_pos h1]
   ·have n1 : ¬ (x.toNat : Int) < y.toNat := by intro h; exact h1 (UInt8.lt_iff_toNat_lt.mpr (by omega))
    rw [if_neg n1, if_neg h1]
    by_cases h2 : y < x
    ·have : (x.toNat : Int) > y.toNat := by have := UInt8.lt_iff_toNat_lt.mp h2; omega
     rw [if_pos this, if_pos h2]
    ·have n2 : ¬ (x.toNat : Int) > y.toNat := by intro h; exact h2 (UInt8.lt_iff_toNat_lt.mpr (by omega))
     rw [if_neg n2, if_neg h2]
  ·rw [decide_eq_false (by omega), if_neg (by simp), if_neg (by omega), if_pos (by omega), List.drop_eq_nil_of_le (by omega : b.data.toList.length ≤ n)]; rfl
theorem ref_compare (a b : ByteArray) (k : Nat) (ha : a.size ≤ 9223372036854775807) (hk : 2 * a.size + 2 ≤ k) : cenotaphref01_Compare.f k a b = some (Lib.compareBytes a.data.toList b.data.toList) := by
 have := ref_compare_loop a b ha a.size k 0 (by omega) (by omega) (by omega) (by omega)
 unfold cenotaphref01_Compare.f
 simpa using this
theorem clone_z (l : List Int) (h : l.length < 8796093022208) : slices_Clone_int_int.f l = some l := by
 simp only [slices_Clone_int_int.f, Option.bind_some, List.length_nil, List.nil_append]
 rw [if_pos (by omega)]
theorem folded_loop (l : List Int) (hl : l.length < 8796093022208) (hm : ∀ x ∈ l, x ≤ 1048576) (d : Nat) : ∀ (k n : Nat) (u : Int), l.length - n = d → n ≤ l.length → 0 ≤ u → u ≤ 1048576 → d < k →
  span_folded.l0 k u l (n : Int) = some (foldZ u (l.drop n)) := by
 induction d with
 | zero =>
  intro k n u hd hn h0 h1 hk
  obtain ⟨k, rfl⟩ : ∃ m, k = m + 1 := ⟨k - 1, by omega⟩
  simp only [span_folded.l0]
  rw [if_neg (by omega), if_pos (by omega), if_pos (by omega), Int.toNat_natCast, clone_z _ (by rw [List.length_drop]; omega), List.drop_eq_nil_of_le (by omega)]
  rfl
 | succ d ih =>
  intro k n u hd hn h0 h1 hk
  obtain ⟨k, rfl⟩ : ∃ m, k = m + 1 := ⟨k - 1, by omega⟩
  have hlt : n < l.length := by omega
  have hx := hm _ (getD_memZ hlt)
  simp only [span_folded.l0]
  rw [if_pos (by omega), if_pos (by omega), rd_int, wrap_id (by omega) (by omega), drop_getD l 0 n hlt]
  unfold foldZ
  by_cases hc : l.getD n 0 ≤ u + 1
  ·rw [if_pos hc, if_pos hc, wrap_nat (by omega)]
   exact ih k (n + 1) _ (by omega) (by omega) (by unfold mx; split <;> omega) (by unfold mx; split <;> omega) (by omega)
  ·rw [if_neg hc, if_neg hc, if_pos (by omega), Int.toNat_natCast, clone_z _ (by rw [List.length_drop]; omega), Option.bind_some, drop_getD l 0 n hlt]
theorem folded_ok (u : Int) (l : List Int) (hl : l.length < 8796093022208) (hm : ∀ x ∈ l, x ≤ 1048576) (h0 : 0 ≤ u) (h1 : u ≤ 1048576) (k : Nat) (hk : l.length < k) : span_folded.f k u l = some (foldZ u l) := by
 have := folded_loop l hl hm l.length k 0 u (by omega) (by omega) h0 h1 hk
 simpa [span_folded.f] using this
theorem span_union (u1 u2 : Int) (e1 e2 : List Int) (h1 : OkS u1 e1) (h2 : OkS u2 e2) (hl : e1.length + e2.length < 8796093022208) (k : Nat) (hk : e1.length + e2.length < k) : span_Union.f k u1 e1 u2 e2 = some (unionS u1 e1 u2 e2) := by
 unfold span_Union.f
 have ha := h1.lo; have hb := h1.up; have hc := h2.lo; have hd := h2.up
 have hlen := unionZ_length (e1 ++ e2)
 rw [List.length_append] at hlen
 rw [if_pos hl]
 refine folded_ok _ _ (by omega) ?_ (by unfold mx; split <;> omega) (by unfold mx; split <;> omega) k (by omega)
 intro x hx
 rw [mem_unionZ, List.mem_append] at hx
 rcases hx with hx | hx
 ·exact h1.hi x hx
 ·exact h2.hi x hx
def addS (u : Int) (e : List Int) (n : Int) : Int × List Int := if n < 1 ∨ n > 1048576 then (u, e) else unionS u e 0 [n]
theorem addS_ok {u : Int} {e : List Int} (h : OkS u e) (n : Int) :
  OkS (addS u e n).1 (addS u e n).2 ∧ (∀ m, memS (addS u e n).1 (addS u e n).2 m ↔ memS u e m ∨ (m = n ∧ 1 ≤ n ∧ n ≤ 1048576)) ∧ (addS u e n).2.length ≤ e.length + 1 := by
 unfold addS
 by_cases hc : n < 1 ∨ n > 1048576
 ·rw [if_pos hc]
  refine ⟨h, fun m => ⟨Or.inl, fun hm => ?_⟩, by simp⟩
  rcases hm with hm | hm
  ·exact hm
  ·omega
 ·rw [if_neg hc]
  obtain ⟨a, b, c⟩ := addS_spec h (by omega : 1 ≤ n) (by omega : n ≤ 1048576)
  refine ⟨a, fun m => (b m).trans ?_, c⟩
  constructor
  ·rintro (x | x)
   ·exact Or.inl x
   ·exact Or.inr ⟨x, by omega, by omega⟩
  ·rintro (x | x)
   ·exact Or.inl x
   ·exact Or.inr x.1
theorem span_add (u : Int) (e : List Int) (n : Int) (h : OkS u e) (hl : e.length < 1000000) (k : Nat) (hk : e.length + 3 < k) : span_Add.f k u e n = some (addS u e n) := by
 obtain ⟨k, rfl⟩ : ∃ m, k = m + 1 := ⟨k - 1, by omega⟩
 unfold span_Add.f addS
 by_cases h1 : n < 1
 ·rw [if_pos h1, if_pos (Or.inl h1)]
  simp only [span_Add.j0]
  rw [if_pos trivial, clone_z _ (by omega), Option.bind_some]
 ·rw [if_neg h1]
  by_cases h2 : n > 1048576
  ·rw [decide_eq_true h2, if_pos (Or.inr h2)]
   simp only [span_Add.j0]
   rw [if_pos trivial, clone_z _ (by omega), Option.bind_some]
  ·rw [decide_eq_false h2, if_neg (by omega)]
   simp only [span_Add.j0]
   rw [if_neg (by simp)]
   have ha := h.lo; have hb := h.up
   have hf : span_Union.f k u e 0 [n] = some (unionS u e 0 [n]) := by
    unfold span_Union.f
    have hlen := unionZ_length (e ++ [n])
    rw [List.length_append, List.length_singleton] at hlen
    rw [if_pos (by rw [List.length_singleton]; omega)]
    refine folded_ok _ _ (by omega) ?_ (by unfold mx; split <;> omega) (by unfold mx; split <;> omega) k (by omega)
    intro x hx
    rw [mem_unionZ, List.mem_append, List.mem_singleton] at hx
    rcases hx with hx | hx
    ·exact h.hi x hx
    ·omega
   rw [hf, Option.bind_some]
theorem equal_loop (a b : List Int) (hl : a.length = b.length) (hs : a.length < 8796093022208) (d : Nat) : ∀ (k n : Nat), a.length - n = d → n ≤ a.length → d < k →
  slices_Equal_int_int.l0 k a b (a.length : Int) (n : Int) = some (decide (a.drop n = b.drop n)) := by
 induction d with
 | zero =>
  intro k n hd hn hk
  obtain ⟨k, rfl⟩ : ∃ m, k = m + 1 := ⟨k - 1, by omega⟩
  simp only [slices_Equal_int_int.l0]
  rw [if_neg (by omega), List.drop_eq_nil_of_le (by omega), List.drop_eq_nil_of_le (by omega)]; rfl
 | succ d ih =>
  intro k n hd hn hk
  obtain ⟨k, rfl⟩ : ∃ m, k = m + 1 := ⟨k - 1, by omega⟩
  simp only [slices_Equal_int_int.l0]
  rw [if_pos (by omega), if_pos (by omega), if_pos (by omega), if_pos (by omega), rd_int, rd_int, drop_getD a 0 n (by omega), drop_getD b 0 n (by omega)]
  by_cases h : a.getD n 0 = b.getD n 0
  ·rw [if_pos h, wrap_nat (by omega), ih k (n + 1) (by omega) (by omega) (by omega), h]
   congr 1
   rw [decide_eq_decide]; simp
  ·rw [if_neg h]
   congr 1
   symm
   rw [decide_eq_false_iff_not]
   intro e
   exact h (List.cons.inj e).1
theorem equal_ok (a b : List Int) (hs : a.length < 8796093022208) (k : Nat) (hk : a.length < k) : slices_Equal_int_int.f k a b = some (decide (a = b)) := by
 unfold slices_Equal_int_int.f
 by_cases h : a.length = b.length
 ·rw [if_pos (by omega)]
  exact equal_loop a b h hs a.length k 0 (by omega) (by omega) hk
 ·rw [if_neg (by omega)]
  congr 1
  symm
  rw [decide_eq_false_iff_not]
  intro e; subst e; exact h rfl
theorem span_same (u1 u2 : Int) (e1 e2 : List Int) (hs : e1.length < 8796093022208) (k : Nat) (hk : e1.length < k) : span_Same.f k u1 e1 u2 e2 = some (decide (u1 = u2 ∧ e1 = e2)) := by
 unfold span_Same.f
 by_cases h : u1 = u2
 ·rw [if_pos h, equal_ok _ _ hs k hk, Option.bind_some]
  congr 1
  rw [decide_eq_decide]; simp [h]
 ·rw [if_neg h]
  congr 1
  symm
  rw [decide_eq_false_iff_not]
  exact fun e => h e.1
theorem span_within (u1 u2 : Int) (e1 e2 : List Int) (h1 : OkS u1 e1) (h2 : OkS u2 e2) (hl : e1.length + e2.length < 1000000) (k : Nat) (hk : e1.length + e2.length < k) :
  ∃ b, span_Within.f k u1 e1 u2 e2 = some b ∧ (b = true ↔ ∀ n, memS u1 e1 n → memS u2 e2 n) := by
 obtain ⟨a, b, c⟩ := unionS_spec h1 h2
 unfold span_Within.f
 rw [span_union _ _ _ _ h1 h2 (by omega) k hk, Option.bind_some, span_same _ _ _ _ (by omega) k (by omega), Option.bind_some]
 refine ⟨_, rfl, ?_⟩
 rw [decide_eq_true_eq]
 constructor
 ·rintro ⟨e1', e2'⟩ n hn
  have := (b n).mpr (Or.inl hn)
  rwa [e1', e2'] at this
 ·intro h
  exact okS_unique a h2 fun n => (b n).trans ⟨fun x => x.elim (h n) id, Or.inr⟩
theorem less_ok (a b : Int) : cmp_Less_int.f a b = some (decide (a < b)) := by
 simp [cmp_Less_int.f, cmp_isNaN_int.f]
theorem search_loop (l : List Int) (x : Int) (hl : l.length < 4611686018427387904) : ∀ (f i j : Nat), i ≤ j → j ≤ l.length → j - i < f → ∀ k, f < k →
  slices_BinarySearch_int_int.l0 k l x (l.length : Int) (i : Int) (j : Int) = some (((bsI (fun m => l.getD m 0 - x) f i j : Nat) : Int), decide (bsI (fun m => l.getD m 0 - x) f i j < l.length ∧ l.getD (bsI (fun m => l.getD m 0 - x) f i j) 0 - x = 0))
 | 0, i, j, hij, hj, hf, k, hk => absurd hf (by omega)
 | f + 1, i, j, hij, hj, hf, k, hk => by
  obtain ⟨k, rfl⟩ : ∃ m, k = m + 1 := ⟨k - 1, by omega⟩
  simp only [slices_BinarySearch_int_int.l0]
  unfold bsI
  by_cases h : i < j
  ·have e1 : wrap64 ((i : Int) + (j : Int)) = ((i + j : Nat) : Int) := by rw [wrap_id (by omega) (by omega)]; omega
   have e2 : IntKind.u64.wrap ((i + j : Nat) : Int) = ((i + j : Nat) : Int) := u64_id (by omega) (by omega)
   have e3 : wrap64 (((i + j : Nat) : Int) / 2) = (((i + j) / 2 : Nat) : Int) := by rw [wrap_id (by omega) (by omega)]; omega
   rw [if_pos (by omega), if_pos h, e1, e2, e3, if_pos (by omega), if_pos (by omega), rd_int, less_ok, Option.bind_some]
   by_cases hc : l.getD ((i + j) / 2) 0 < x
   ·rw [if_pos (decide_eq_true hc), if_pos (by omega), wrap_nat (by omega)]
    exact search_loop l x hl f _ j (by omega) hj (by omega) k (by omega)
   ·rw [if_neg (by simpa using hc), if_neg (by omega)]
    exact search_loop l x hl f i _ (by omega) (by omega) (by omega) k (by omega)
  ·rw [if_neg (by omega), if_neg h]
   by_cases hn : i < l.length
   ·rw [if_pos (by omega), if_pos (by omega), if_pos (by omega), rd_int]
    by_cases hx : l.getD i 0 = x
    ·rw [if_pos hx, decide_eq_true ⟨hn, by omega⟩]
    ·rw [if_neg hx, decide_eq_false (by omega)]
     simp [slices_isNaN_int.f]
   ·rw [if_neg (by omega), decide_eq_false (by omega)]
theorem search_ok (l : List Int) (x : Int) (hs : l.Pairwise (fun x y : Int => x < y)) (hl : l.length < 4611686018427387904) (k : Nat) (hk : l.length + 2 ≤ k) :
  ∃ p b, slices_BinarySearch_int_int.f k l x = some (p, b) ∧ (b = true ↔ x ∈ l) := by
 have h := search_loop l x hl (l.length + 1) 0 l.length (by omega) (by omega) (by omega) k (by omega)
 refine ⟨_, _, h, ?_⟩
 have hp : ∀ i j, i < j → j < l.length → l.getD i 0 < l.getD j 0 := by
  intro i j hij hj
  have := List.pairwise_iff_getElem.mp hs i j (by omega) hj hij
  simpa [List.getD, List.getElem?_eq_getElem hj, List.getElem?_eq_getElem (show i < l.length by omega)] using this
 have hb := bsB_iff (fun m => l.getD m 0 - x) l.length (fun i j hij hj hc => by have := hp i j hij hj; omega) (fun i j hij hj hc => by have := hp i j hij hj; omega)
 have e : decide (bsI (fun m => l.getD m 0 - x) (l.length + 1) 0 l.length < l.length ∧ l.getD (bsI (fun m => l.getD m 0 - x) (l.length + 1) 0 l.length) 0 - x = 0) = bsB (fun m => l.getD m 0 - x) l.length := by
  unfold bsB bsN
  rw [Bool.eq_iff_iff]; simp
 rw [e, hb]
 constructor
 ·rintro ⟨i, hi, hc⟩
  have : l.getD i 0 = x := by omega
  exact this ▸ getD_memZ hi
 ·intro hx
  obtain ⟨i, hi, e⟩ := List.mem_iff_getElem.mp hx
  refine ⟨i, hi, ?_⟩
  have : l.getD i 0 = x := by simp [List.getD, List.getElem?_eq_getElem hi, e]
  omega
theorem span_has (u : Int) (e : List Int) (n : Int) (h : OkS u e) (hl : e.length < 1000000) (k : Nat) (hk : e.length + 2 ≤ k) : span_Has.f k u e n = some (decide (memS u e n)) := by
 unfold span_Has.f
 by_cases hc : n ≤ u
 ·rw [if_pos hc]
  congr 1
  rw [decide_eq_decide]
  unfold memS
  constructor
  ·intro x; exact Or.inl ⟨x, hc⟩
  ·rintro (x | x)
   ·exact x.1
   ·have := h.gap n x; omega
 ·rw [if_neg hc]
  obtain ⟨p, b, hf, hb⟩ := search_ok e n h.sort (by omega) k hk
  rw [hf, Option.bind_some]
  congr 1
  rw [Bool.eq_iff_iff, hb, decide_eq_true_eq]
  unfold memS
  exact ⟨Or.inr, fun x => x.elim (fun y => absurd y.2 hc) id⟩
theorem span_count (u : Int) (e : List Int) (h : OkS u e) (hl : e.length < 1000000) : span_Count.f u e = some (u + e.length) := by
 have ha := h.lo; have hb := h.up
 unfold span_Count.f
 rw [wrap_id (by omega) (by omega)]
def rightL (last : Int) : List Int → Bool
 | [] => true
 | x :: t => decide (last < x) && decide (x ≤ 1048576) && rightL x t
theorem rightL_ok : ∀ (l : List Int) (last : Int), l.Pairwise (fun x y : Int => x < y) → (∀ x ∈ l, last < x) → (∀ x ∈ l, x ≤ 1048576) → rightL last l = true
 | [], _, _, _, _ => rfl
 | x :: t, last, hs, hl, hm => by
  rw [List.pairwise_cons] at hs
  unfold rightL
  rw [decide_eq_true (hl x (by simp)), decide_eq_true (hm x (by simp)), rightL_ok t x hs.2 hs.1 fun y hy => hm y (by simp [hy])]; rfl
theorem right_loop (l : List Int) (hl : l.length < 8796093022208) (d : Nat) : ∀ (k n : Nat) (last : Int), l.length - n = d → n ≤ l.length → d < k →
  span_Right.l0 k last l (l.length : Int) (n : Int) = some (rightL last (l.drop n)) := by
 induction d with
 | zero =>
  intro k n last hd hn hk
  obtain ⟨k, rfl⟩ : ∃ m, k = m + 1 := ⟨k - 1, by omega⟩
  simp only [span_Right.l0]
  rw [if_neg (by omega), List.drop_eq_nil_of_le (by omega)]; rfl
 | succ d ih =>
  intro k n last hd hn hk
  obtain ⟨k, rfl⟩ : ∃ m, k = m + 1 := ⟨k - 1, by omega⟩
  simp only [span_Right.l0]
  rw [if_pos (by omega), if_pos (by omega), if_pos (by omega), rd_int, drop_getD l 0 n (by omega)]
  generalize l.getD n 0 = x
  unfold rightL
  by_cases h1 : x ≤ last
  ·rw [if_pos h1, decide_eq_false (by omega)]; rfl
  ·rw [if_neg h1, decide_eq_true (by omega)]
   by_cases h2 : x > 1048576
   ·rw [if_pos h2, decide_eq_false (by omega)]; rfl
   ·rw [if_neg h2, decide_eq_true (by omega), wrap_nat (by omega), ih k (n + 1) x (by omega) (by omega) (by omega)]; rfl
def rightS (u : Int) (e : List Int) : Bool := decide (0 ≤ u) && decide (u ≤ 1048576) && decide (e.length ≤ 4096) && rightL (u + 1) e
theorem span_right (u : Int) (e : List Int) (hl : e.length < 8796093022208) (k : Nat) (hk : e.length + 1 < k) : span_Right.f k u e = some (rightS u e) := by
 obtain ⟨k, rfl⟩ : ∃ m, k = m + 1 := ⟨k - 1, by omega⟩
 unfold span_Right.f rightS
 by_cases h1 : u < 0
 ·rw [if_pos h1, decide_eq_false (by omega)]; simp only [span_Right.j0]; rfl
 ·rw [if_neg h1, decide_eq_true (show 0 ≤ u by omega)]
  by_cases h2 : u > 1048576
  ·rw [if_pos h2, decide_eq_false (show ¬ u ≤ 1048576 by omega)]; simp only [span_Right.j0]; rfl
  ·rw [if_neg h2, decide_eq_true (show u ≤ 1048576 by omega)]
   simp only [span_Right.j0]
   by_cases h3 : e.length ≤ 4096
   ·rw [decide_eq_false (show ¬ (e.length : Int) > 4096 by omega), decide_eq_true h3, if_neg (by simp), wrap_id (by omega) (by omega)]
    have := right_loop e hl e.length k 0 (u + 1) (by omega) (by omega) (by omega)
    simpa using this
   ·rw [decide_eq_true (show (e.length : Int) > 4096 by omega), decide_eq_false h3, if_pos rfl]; rfl
theorem rightS_ok {u : Int} {e : List Int} (h : OkS u e) (hl : e.length ≤ 4096) : rightS u e = true := by
 unfold rightS
 rw [decide_eq_true h.lo, decide_eq_true h.up, decide_eq_true hl, rightL_ok e (u + 1) h.sort h.gap h.hi]; rfl
abbrev SK := S72
def tK : RoN SK := ⟨fun x => x.f0, fun x => x.f1.f0, fun x => x.f1.f1, fun a u e => ⟨a, ⟨u, e⟩⟩, fun _ _ _ => rfl, fun _ _ _ => rfl, fun _ _ _ => rfl, fun _ => rfl⟩
theorem kn_toL {a b : ByteArray} : a.toList = b.toList ↔ a = b := by
 rw [Lib.toList_data, Lib.toList_data]
 exact ⟨fun h => bytes_ext h, fun h => by rw [h]⟩
theorem kn_size {a : ByteArray} (h : rightB a = true) : a.size ≤ 6 := by
 rw [rightB_eq] at h
 have hs := size_list a
 cases e : a.data.toList with
 | nil => rw [e] at h; simp [idL] at h
 | cons c t =>
  rw [e] at h hs
  simp only [idL, Bool.and_eq_true, decide_eq_true_eq] at h
  simp only [List.length_cons] at hs
  omega
theorem rdK (l : List SK) (n : Nat) : rd_T72 l (n : Int) = l.getD n z72 := rfl
theorem limK_ok {q : Nat} {m : List SK} (h : LimN tK q m) (hq : q < 1000000000) (hm : m.length < 1000000000) : P.okM m := ⟨hm, fun x hx => by have : x.f1.f1.length ≤ q := h x hx; omega⟩
theorem findK {m : List SK} (h : KS ltB tK.id m) (a : ByteArray) :
 (mB m a = true → ∃ hi : mN m a < m.length, (m[mN m a]).f0 = a ∧ getM tK.id a m = some m[mN m a]) ∧
 (mB m a = false → getM tK.id a m = none ∧ mN m a ≤ m.length ∧ (∀ x ∈ m.take (mN m a), ltB x.f0 a) ∧ ∀ x ∈ m.drop (mN m a), ltB a x.f0) := find_spec (key := tK.id) z72 h a
theorem kn_of {m : List SK} (h : OkN tK m) {q : Nat} (hq : LimN tK q m) (hq2 : q < 100000) (hm : m.length < 100000) (a : ByteArray) : know_Of.f m a = some (ofN tK m a) := by
 obtain ⟨h1, h2⟩ := findK h.ks a
 unfold know_Of.f know_find.f
 rw [if_pos (by omega), Option.bind_some]
 dsimp only
 unfold ofN
 cases hb : mB m a with
 | true =>
  obtain ⟨hi, e, g⟩ := h1 hb
  have hx := hq _ (List.getElem_mem hi)
  have hx2 : (m[mN m a]).f1.f1.length ≤ q := hx
  rw [if_pos rfl, if_pos (by omega), if_pos (by omega), rdK, getD_eq hi, g, clone_z _ (by omega), Option.bind_some]
  rfl
 | false =>
  obtain ⟨g, _⟩ := h2 hb
  rw [if_neg (by simp), g]
theorem kn_has {m : List SK} (h : OkN tK m) {q : Nat} (hq : LimN tK q m) (hq2 : q < 100000) (hm : m.length < 100000) (a : ByteArray) (n : Int) (k : Nat) (hk : q + 2 ≤ k) : know_Has.f k m a n = some (decide (memN tK m a n)) := by
 obtain ⟨h1, h2⟩ := findK h.ks a
 unfold know_Has.f know_find.f
 rw [if_pos (by omega), Option.bind_some]
 dsimp only
 cases hb : mB m a with
 | true =>
  obtain ⟨hi, e, g⟩ := h1 hb
  have hmem : m[mN m a] ∈ m := List.getElem_mem hi
  have hx2 : (m[mN m a]).f1.f1.length ≤ q := hq _ hmem
  have hok : OkS (m[mN m a]).f1.f0 (m[mN m a]).f1.f1 := h.ok _ hmem
  have hof : ofN tK m a = ((m[mN m a]).f1.f0, (m[mN m a]).f1.f1) := by unfold ofN; rw [g]; rfl
  rw [if_pos rfl, if_pos (by omega), if_pos (by omega), rdK, getD_eq hi, span_has _ _ n hok (by omega) k (by omega), Option.bind_some]
  congr 1
  rw [decide_eq_decide]
  unfold memN
  rw [hof]
 | false =>
  obtain ⟨g, _⟩ := h2 hb
  have hof : ofN tK m a = (0, []) := by unfold ofN; rw [g]
  rw [if_neg (by simp), decide_eq_false]
  unfold memN
  rw [hof]
  exact memS_none n
theorem kn_with {m : List SK} (h : OkN tK m) {q p : Nat} (hq : LimN tK q m) (hq2 : q < 100000) (a : ByteArray) (ha : rightB a = true) {u : Int} {e : List Int} (hw : OkS u e) (hp : e.length ≤ p) (hp2 : p < 100000) (k : Nat) (hk : q + p < k) :
  ∃ r, withK k m a u e = some r ∧ IsAdd tK m a (memS u e) r ∧ LimN tK (q + p) r := by
 obtain ⟨h1, h2⟩ := findK h.ks a
 have hs := okS_some hw
 unfold withK
 rw [span_count u e hw (by omega), Option.bind_some]
 by_cases hc : u + (e.length : Int) = 0
 ·rw [if_pos hc]
  refine ⟨m, rfl, isAdd_none h a (fun n hn => ?_), hq.imp (by omega)⟩
  have := hs.mp ⟨n, hn⟩
  omega
 ·have hlo := hw.lo
  have hex : ∃ n, memS u e n := hs.mpr (by omega)
  rw [if_neg hc]
  cases hb : mB m a with
  | true =>
   obtain ⟨hi, e1, g⟩ := h1 hb
   have hmem : m[mN m a] ∈ m := List.getElem_mem hi
   have hof : ofN tK m a = ((m[mN m a]).f1.f0, (m[mN m a]).f1.f1) := by unfold ofN; rw [g]; rfl
   have hx2 : (m[mN m a]).f1.f1.length ≤ q := hq _ hmem
   have hok : OkS (m[mN m a]).f1.f0 (m[mN m a]).f1.f1 := h.ok _ hmem
   obtain ⟨s1, s2, s3⟩ := unionS_spec hok hw
   rw [if_pos rfl, getD_eq hi, span_union _ _ _ _ hok hw (by omega) k (by omega), Option.bind_some, e1]
   have hput : m.set (mN m a) ⟨a, ⟨(unionS (m[mN m a]).f1.f0 (m[mN m a]).f1.f1 u e).1, (unionS (m[mN m a]).f1.f0 (m[mN m a]).f1.f1 u e).2⟩⟩ = putM ltB tK.id (tK.of a (unionS (m[mN m a]).f1.f0 (m[mN m a]).f1.f1 u e).1 (unionS (m[mN m a]).f1.f0 (m[mN m a]).f1.f1 u e).2) m := putM_set toB (tK.of a _ _) h.ks hi (by rw [tK.id_of]; exact e1)
   rw [hput]
   refine ⟨_, rfl, isAdd_put h a s1 (fun n => (s2 n).trans ?_) ha ?_, (hq.imp (by omega)).put a _ (by omega)⟩
   ·unfold memN; rw [hof]
   ·obtain ⟨n, hn⟩ := hex; exact ⟨n, (s2 n).mpr (Or.inr hn)⟩
  | false =>
   obtain ⟨g, hle, hlo2, hhi⟩ := h2 hb
   have hof : ofN tK m a = (0, []) := by unfold ofN; rw [g]
   rw [if_neg (by simp)]
   have hput : m.take (mN m a) ++ (⟨a, ⟨u, e⟩⟩ : SK) :: m.drop (mN m a) = putM ltB tK.id (tK.of a u e) m := by
    have hh := putM_parts toB (tK.of a u e) (p := m.take (mN m a)) (q := m.drop (mN m a)) (by rw [List.take_append_drop]; exact h.ks) (fun x hx => by rw [tK.id_of]; exact hlo2 x hx) (fun x hx => by rw [tK.id_of]; exact hhi x hx)
    rw [List.take_append_drop] at hh
    exact hh
   rw [hput]
   refine ⟨_, rfl, isAdd_put h a hw (fun n => ?_) ha hex, (hq.imp (by omega)).put a u (by omega)⟩
   unfold memN
   rw [hof]
   exact ⟨Or.inr, fun hh => hh.elim (fun h => absurd h (memS_none n)) id⟩
def oneN (a : ByteArray) (n : Int) (i : Int) : Prop := rightB a = true ∧ i = n ∧ 1 ≤ n ∧ n ≤ 1048576
theorem kn_add {m : List SK} (h : OkN tK m) {q : Nat} (hq : LimN tK q m) (hq2 : q < 100000) (hm : m.length < 100000) (a : ByteArray) (n : Int) (k : Nat) (hk : q + 10 < k) :
  ∃ r, know_Add.f k m a n = some r ∧ IsAdd tK m a (oneN a n) r ∧ LimN tK (q + 1) r := by
 unfold know_Add.f
 rw [if_pos (limK_ok hq (by omega) (by omega))]
 by_cases ha : rightB a = true
 ·have hz : OkS 0 [] := OkS.nil (by decide) (by decide)
  obtain ⟨s1, s2, s3⟩ := addS_ok hz n
  rw [if_pos ha, span_add 0 [] n hz (by decide) k (by simp; omega), Option.bind_some]
  obtain ⟨r, e, i, l⟩ := kn_with h hq hq2 a ha s1 (show (addS 0 [] n).2.length ≤ 1 by simpa using s3) (by omega) k (by omega)
  refine ⟨r, e, ⟨i.ok, fun b j => ?_, i.len⟩, l⟩
  rw [i.mem, s2]
  unfold oneN
  constructor
  ·rintro (hh | ⟨hh, h1 | h1⟩)
   ·exact Or.inl hh
   ·exact absurd h1 (memS_none j)
   ·exact Or.inr ⟨hh, ha, h1⟩
  ·rintro (hh | ⟨hh, _, h1⟩)
   ·exact Or.inl hh
   ·exact Or.inr ⟨hh, Or.inr h1⟩
 ·rw [if_neg ha]
  exact ⟨m, rfl, isAdd_none h a (fun n hn => absurd hn.1 ha), hq.imp (by omega)⟩
def fixD (c : UInt8) : UInt8 := 49 + c % 9
def fixL (l : List UInt8) : List UInt8 := 48 :: (l.take 5).map fixD
def fixB (a : ByteArray) : ByteArray := ⟨(fixL a.data.toList).toArray⟩
theorem fixD_ok (c : UInt8) : okDigit (fixD c) = true := by
 have h : c.toNat % 9 < 9 := Nat.mod_lt _ (by omega)
 simp [okDigit, fixD, UInt8.le_iff_toNat_le, UInt8.toNat_add, UInt8.toNat_mod]; omega
theorem fixL_ok (l : List UInt8) : idL (fixL l) = true := by
 unfold fixL idL
 have h : (l.take 5).length ≤ 5 := List.length_take_le _ _
 simp only [beq_self_eq_true, Bool.true_and, List.length_map, decide_eq_true h]
 rw [List.all_eq_true]
 intro x hx
 obtain ⟨c, _, rfl⟩ := List.mem_map.mp hx
 exact fixD_ok c
theorem digit_at (c : UInt8) : ((⟨#[49, 50, 51, 52, 53, 54, 55, 56, 57]⟩ : ByteArray).extract (c.toNat % 9) (c.toNat % 9 + 1)) = ⟨#[fixD c]⟩ := by
 have h : c.toNat % 9 < 9 := Nat.mod_lt _ (by omega)
 have e : fixD c = UInt8.ofNat (49 + c.toNat % 9) := by
  apply UInt8.toNat_inj.mp
  simp [fixD, UInt8.toNat_add, UInt8.toNat_mod]
 rw [e]
 generalize c.toNat % 9 = j at h ⊢
 match j, h with
 | 0, _ => rfl
 | 1, _ => rfl
 | 2, _ => rfl
 | 3, _ => rfl
 | 4, _ => rfl
 | 5, _ => rfl
 | 6, _ => rfl
 | 7, _ => rfl
 | 8, _ => rfl
theorem bytes_snoc (l : List UInt8) (c : UInt8) : (⟨l.toArray⟩ : ByteArray) ++ (⟨#[c]⟩ : ByteArray) = ⟨(l ++ [c]).toArray⟩ := by
 apply ByteArray.ext; simp
theorem ref_fix_loop (a : ByteArray) (d : Nat) : ∀ (k n : Nat) (l : List UInt8), 5 - n = d → n ≤ a.size → n ≤ 5 → d < k → l.length = n + 1 →
  cenotaphref01_Fix.l0 k a ⟨l.toArray⟩ (n : Int) = some ⟨(l ++ ((a.data.toList.drop n).take d).map fixD).toArray⟩ := by
 have sa := size_list a
 induction d with
 | zero =>
  intro k n l hd hn h5 hk hl
  obtain ⟨k, rfl⟩ : ∃ m, k = m + 1 := ⟨k - 1, by omega⟩
  simp only [cenotaphref01_Fix.l0]
  by_cases h : n < a.size
  ·rw [if_pos (by omega), if_neg (by omega)]; simp
  ·rw [if_neg (by omega)]; simp
 | succ d ih =>
  intro k n l hd hn h5 hk hl
  obtain ⟨k, rfl⟩ : ∃ m, k = m + 1 := ⟨k - 1, by omega⟩
  simp only [cenotaphref01_Fix.l0]
  by_cases h : n < a.size
  ·rw [if_pos (by omega), if_pos (by omega), if_pos (by omega), bt_get a n h]
   have e0 : a.data.toList.drop n = a.data.toList.getD n 0 :: a.data.toList.drop (n + 1) := by
    rw [List.drop_eq_getElem_cons (by omega)]; simp [List.getD, List.getElem?_eq_getElem (show n < a.data.toList.length by omega)]
   rw [e0]
   generalize a.data.toList.getD n 0 = c
   have hm : Int.tmod (c.toNat : Int) 9 = ((c.toNat % 9 : Nat) : Int) := by
    rw [Int.tmod_eq_emod_of_nonneg (by omega)]; rfl
   have h9 : c.toNat % 9 < 9 := Nat.mod_lt _ (by omega)
   have hm2 : (((c.toNat % 9 : Nat) : Int) + 1) % 256 = ((c.toNat % 9 + 1 : Nat) : Int) := by omega
   have hsz : (⟨l.toArray⟩ : ByteArray).size + (⟨#[fixD c]⟩ : ByteArray).size ≤ 9223372036854775807 := by
    show l.toArray.size + 1 ≤ _
    rw [List.size_toArray]; omega
   rw [hm, hm2, if_pos (by omega), if_pos (by omega), if_pos (by omega), Int.toNat_natCast, Int.toNat_natCast, digit_at, if_pos hsz, bytes_snoc, wrap_id (by omega) (by omega)]
   have := ih k (n + 1) (l ++ [fixD c]) (by omega) (by omega) (by omega) (by omega) (by simp; omega)
   simp only [Int.natCast_add, Int.cast_ofNat_Int] at this
   rw [this]; simp
  ·rw [if_neg (by omega), List.drop_eq_nil_of_le (by omega)]; simp
theorem ref_fix (a : ByteArray) (k : Nat) (hk : 6 ≤ k) : cenotaphref01_Fix.f k a = some (fixB a) := by
 have := ref_fix_loop a 5 k 0 [48] (by omega) (by omega) (by omega) (by omega) rfl
 unfold cenotaphref01_Fix.f
 simpa [fixB, fixL] using this
theorem fixB_right (a : ByteArray) : rightB (fixB a) = true := by
 rw [rightB_eq]; exact fixL_ok _
theorem rhas_loop (x : Int) (u : Int) (l : List Int) (hl : l.length < 8796093022208) (d : Nat) : ∀ (k n : Nat), l.length - n = d → n ≤ l.length → d < k →
  cenotaphref02_Has.l0 k x (n : Int) u l = some (decide (x ∈ l.drop n)) := by
 induction d with
 | zero =>
  intro k n hd hn hk
  obtain ⟨k, rfl⟩ : ∃ m, k = m + 1 := ⟨k - 1, by omega⟩
  simp only [cenotaphref02_Has.l0]
  rw [if_neg (by omega), List.drop_eq_nil_of_le (by omega)]; rfl
 | succ d ih =>
  intro k n hd hn hk
  obtain ⟨k, rfl⟩ : ∃ m, k = m + 1 := ⟨k - 1, by omega⟩
  simp only [cenotaphref02_Has.l0]
  rw [if_pos (by omega), if_pos (by omega), rd_int, drop_getD l 0 n (by omega)]
  by_cases h : l.getD n 0 = x
  ·rw [if_pos h, h]; congr 1; symm; rw [decide_eq_true_eq]; simp
  ·rw [if_neg h, wrap_nat (by omega), ih k (n + 1) (by omega) (by omega) (by omega)]
   congr 1
   rw [decide_eq_decide, List.mem_cons]
   exact ⟨Or.inr, fun e => e.resolve_left fun e => h e.symm⟩
theorem sp_has (u : Int) (l : List Int) (x : Int) (hl : l.length < 8796093022208) (k : Nat) (hk : l.length + 1 < k) : cenotaphref02_Has.f k u l x = some (decide (memS u l x)) := by
 obtain ⟨k, rfl⟩ : ∃ m, k = m + 1 := ⟨k - 1, by omega⟩
 have hloop := rhas_loop x u l hl l.length k 0 (by omega) (by omega) (by omega)
 unfold cenotaphref02_Has.f
 by_cases h1 : x ≥ 1
 ·rw [if_pos h1]
  by_cases h2 : x ≤ u
  ·rw [decide_eq_true h2]
   simp only [cenotaphref02_Has.j0]
   rw [if_pos trivial]
   congr 1; symm; rw [decide_eq_true_eq]
   exact Or.inl ⟨h1, h2⟩
  ·rw [decide_eq_false h2]
   simp only [cenotaphref02_Has.j0]
   rw [if_neg (by simp)]
   refine hloop.trans ?_
   congr 1
   rw [decide_eq_decide]
   unfold memS
   exact ⟨Or.inr, fun e => e.elim (fun e => absurd e.2 h2) id⟩
 ·rw [if_neg h1]
  simp only [cenotaphref02_Has.j0]
  rw [if_neg (by simp)]
  refine hloop.trans ?_
  congr 1
  rw [decide_eq_decide]
  unfold memS
  exact ⟨Or.inr, fun e => e.elim (fun e => absurd e.1 h1) id⟩
def insZ (n : Int) : List Int → List Int
 | [] => [n]
 | x :: t => if x > n then n :: x :: t else x :: insZ n t
theorem insZ_mem (n : Int) : ∀ (l : List Int) (m : Int), m ∈ insZ n l ↔ m ∈ l ∨ m = n
 | [], m => by simp [insZ]
 | x :: t, m => by
  unfold insZ
  split
  ·rw [List.mem_cons]; exact Or.comm
  ·rw [List.mem_cons, insZ_mem n t m, List.mem_cons, or_assoc]
theorem insZ_length (n : Int) : ∀ (l : List Int), (insZ n l).length = l.length + 1
 | [] => rfl
 | x :: t => by
  unfold insZ
  split
  ·rfl
  ·simp [insZ_length n t]
theorem insZ_sorted (n : Int) : ∀ (l : List Int), l.Pairwise (fun x y : Int => x < y) → n ∉ l → (insZ n l).Pairwise (fun x y : Int => x < y)
 | [], _, _ => List.pairwise_singleton _ _
 | x :: t, hs, hn => by
  have hs' := hs
  rw [List.pairwise_cons] at hs
  rw [List.mem_cons, not_or] at hn
  unfold insZ
  split
  ·rename_i h
   rw [List.pairwise_cons]
   refine ⟨fun y hy => ?_, hs'⟩
   rcases List.mem_cons.mp hy with e | e
   ·subst e; exact h
   ·have := hs.1 y e; omega
  ·rename_i h
   rw [List.pairwise_cons]
   refine ⟨fun y hy => ?_, insZ_sorted n t hs.2 hn.2⟩
   rcases (insZ_mem n t y).mp hy with e | e
   ·exact hs.1 y e
   ·subst e; omega
theorem radd_l1 (d : Nat) : ∀ (l : List Int) (u : Int) (k : Nat), l.length = d → l.length < 1000000 → 0 ≤ u → u ≤ 1048576 → l.Pairwise (fun x y : Int => x < y) → (∀ x ∈ l, u < x ∧ x ≤ 1048576) → d < k → cenotaphref02_Add.l1 k l u = some (foldZ u l) := by
 induction d with
 | zero =>
  intro l u k hd hl h0 h1 hs hm hk
  obtain ⟨k, rfl⟩ : ∃ m, k = m + 1 := ⟨k - 1, by omega⟩
  have : l = [] := List.eq_nil_of_length_eq_zero hd
  subst this
  simp only [cenotaphref02_Add.l1]
  rw [if_neg (by simp)]; rfl
 | succ d ih =>
  intro l u k hd hl h0 h1 hs hm hk
  obtain ⟨k, rfl⟩ : ∃ m, k = m + 1 := ⟨k - 1, by omega⟩
  cases l with
  | nil => simp at hd
  | cons x t =>
   simp only [List.length_cons] at hd hl
   have hx := hm x (by simp)
   rw [List.pairwise_cons] at hs
   simp only [cenotaphref02_Add.l1, List.length_cons]
   have hr : rd (x :: t) 0 = x := rfl
   rw [if_pos (by omega), if_pos (by omega), hr, wrap_id (by omega) (by omega)]
   unfold foldZ
   by_cases h : x = u + 1
   ·rw [if_pos h, if_pos (by omega), if_pos (by omega), if_pos (by omega)]
    have e : (x :: t).drop (1 : Int).toNat = t := rfl
    rw [e, h]
    exact ih t (u + 1) k (by omega) (by omega) (by omega) (by omega) hs.2 (fun y hy => ⟨by have := hs.1 y hy; omega, (hm y (by simp [hy])).2⟩) (by omega)
   ·rw [if_neg h, if_neg (by omega)]
    simp only [Option.bind_some, List.nil_append, List.length_nil, List.length_cons]
    rw [if_pos (by omega)]
theorem radd_l0t (x : Int) (u : Int) (e : List Int) (hl : e.length < 1000000) (r : Option (Int × List Int)) (d : Nat) : ∀ (k n : Nat) (acc : List Int), e.length - n = d → n ≤ e.length → acc.length < 2000000 + n →
  (∀ k', k - d - 2 ≤ k' → cenotaphref02_Add.l1 k' (acc ++ e.drop n) u = r) → d + 2 < k → cenotaphref02_Add.l0 k x acc true (n : Int) u e = r := by
 induction d with
 | zero =>
  intro k n acc hd hn ha hr hk
  obtain ⟨k, rfl⟩ : ∃ m, k = m + 2 := ⟨k - 2, by omega⟩
  simp only [cenotaphref02_Add.l0]
  rw [if_neg (by omega), if_pos trivial]
  simp only [cenotaphref02_Add.j2]
  have := hr k (by omega)
  rwa [List.drop_eq_nil_of_le (by omega), List.append_nil] at this
 | succ d ih =>
  intro k n acc hd hn ha hr hk
  obtain ⟨k, rfl⟩ : ∃ m, k = m + 1 := ⟨k - 1, by omega⟩
  simp only [cenotaphref02_Add.l0]
  rw [if_pos (by omega), if_pos trivial, if_pos (by omega), if_pos (by omega), rd_int, wrap_nat (by omega)]
  refine ih k (n + 1) _ (by omega) (by omega) (by simp; omega) (fun k' hk' => ?_) (by omega)
  rw [List.append_assoc, List.singleton_append, ← drop_getD e 0 n (by omega)]
  exact hr k' (by omega)
theorem radd_l0 (x : Int) (u : Int) (e : List Int) (hl : e.length < 1000000) (r : Option (Int × List Int)) (d : Nat) : ∀ (k n : Nat) (acc : List Int), e.length - n = d → n ≤ e.length → acc.length < 1000000 + n →
  (∀ k', k - d - 3 ≤ k' → cenotaphref02_Add.l1 k' (acc ++ insZ x (e.drop n)) u = r) → d + 3 < k → cenotaphref02_Add.l0 k x acc false (n : Int) u e = r := by
 induction d with
 | zero =>
  intro k n acc hd hn ha hr hk
  obtain ⟨k, rfl⟩ : ∃ m, k = m + 2 := ⟨k - 2, by omega⟩
  simp only [cenotaphref02_Add.l0]
  rw [if_neg (by omega), if_neg (by simp), if_pos (by omega)]
  simp only [cenotaphref02_Add.j2]
  have := hr k (by omega)
  rwa [List.drop_eq_nil_of_le (by omega)] at this
 | succ d ih =>
  intro k n acc hd hn ha hr hk
  obtain ⟨k, rfl⟩ : ∃ m, k = m + 1 := ⟨k - 1, by omega⟩
  have hd' := drop_getD e 0 n (by omega)
  simp only [cenotaphref02_Add.l0]
  rw [if_pos (by omega), if_neg (by simp), if_pos (by omega), rd_int, wrap_nat (by omega)]
  by_cases h : e.getD n 0 > x
  ·rw [if_pos h, if_pos (by omega), Option.bind_some, if_pos (by simp; omega)]
   refine radd_l0t x u e hl r d k (n + 1) _ (by omega) (by omega) (by simp; omega) (fun k' hk' => ?_) (by omega)
   have := hr k' (by omega)
   rw [hd', insZ, if_pos h] at this
   simpa using this
  ·rw [if_neg h, if_pos (by omega)]
   refine ih k (n + 1) _ (by omega) (by omega) (by simp; omega) (fun k' hk' => ?_) (by omega)
   have := hr k' (by omega)
   rw [hd', insZ, if_neg h] at this
   simpa using this
theorem ref_add (u : Int) (e : List Int) (n : Int) (h : OkS u e) (hl : e.length < 500000) (k : Nat) (hk : 2 * e.length + 10 < k) : cenotaphref02_Add.f k u e n = some (addS u e n) := by
 obtain ⟨k, rfl⟩ : ∃ m, k = m + 1 := ⟨k - 1, by omega⟩
 have same : cenotaphref02_Add.j0 (k + 1) n true u e = some (u, e) := by
  simp only [cenotaphref02_Add.j0, Option.bind_some, List.nil_append, List.length_nil]
  rw [if_pos trivial, if_pos (by omega)]
 unfold cenotaphref02_Add.f addS
 by_cases h1 : n < 1
 ·rw [if_pos h1, if_pos (Or.inl h1), same]
 ·rw [if_neg h1]
  by_cases h2 : n > 1048576
  ·rw [if_pos h2, if_pos (Or.inr h2), same]
  ·rw [if_neg h2, if_neg (by omega), sp_has u e n (by omega) _ (by omega), Option.bind_some]
   obtain ⟨a, b, c⟩ := addS_spec h (by omega : 1 ≤ n) (by omega : n ≤ 1048576)
   by_cases hm : memS u e n
   ·rw [decide_eq_true hm, same]
    obtain ⟨x, y⟩ := okS_unique h a fun m => ⟨fun hh => (b m).mpr (Or.inl hh), fun hh => ((b m).mp hh).elim id fun e => e ▸ hm⟩
    rw [show unionS u e 0 [n] = (u, e) from Prod.ext x.symm y.symm]
   ·rw [decide_eq_false hm]
    simp only [cenotaphref02_Add.j0]
    rw [if_neg (by simp)]
    have hn1 : n ∉ e := fun hh => hm (Or.inr hh)
    have hn2 : u < n := by
     apply Classical.byContradiction; intro hh
     exact hm (Or.inl ⟨by omega, by omega⟩)
    have hmem : ∀ x ∈ insZ n e, u < x ∧ x ≤ 1048576 := by
     intro x hx
     rcases (insZ_mem n e x).mp hx with hx | hx
     ·have := h.gap x hx; have := h.hi x hx; omega
     ·omega
    have ha := h.lo; have hb := h.up
    have hf := foldZ_spec (insZ n e) u ha hb (insZ_sorted n e h.sort hn1) fun x hx => by have := hmem x hx; omega
    have heq : foldZ u (insZ n e) = unionS u e 0 [n] := by
     obtain ⟨x, y⟩ := okS_unique hf.1 a fun m => ((hf.2.1 m).trans (by unfold memS; rw [insZ_mem]; constructor; (rintro (p | p | p); exact Or.inl (Or.inl p); exact Or.inl (Or.inr p); exact Or.inr p); (rintro ((p | p) | p); exact Or.inl p; exact Or.inr (Or.inl p); exact Or.inr (Or.inr p)))).trans (b m).symm
     exact Prod.ext x y
    refine radd_l0 n u e (by omega) _ e.length k 0 [] (by omega) (by omega) (by simp) (fun k' hk' => ?_) (by omega)
    rw [List.nil_append, List.drop_zero, ← heq]
    exact radd_l1 _ _ u k' rfl (by rw [insZ_length]; omega) ha hb (insZ_sorted n e h.sort hn1) hmem (by rw [insZ_length]; omega)
theorem rsame_loop (u1 u2 : Int) (a b : List Int) (hl : a.length = b.length) (hs : a.length < 8796093022208) (d : Nat) : ∀ (k n : Nat), a.length - n = d → n ≤ a.length → d < k →
  cenotaphref02_Same.l0 k (n : Int) u1 a u2 b = some (decide (a.drop n = b.drop n)) := by
 induction d with
 | zero =>
  intro k n hd hn hk
  obtain ⟨k, rfl⟩ : ∃ m, k = m + 1 := ⟨k - 1, by omega⟩
  simp only [cenotaphref02_Same.l0]
  rw [if_neg (by omega), List.drop_eq_nil_of_le (by omega), List.drop_eq_nil_of_le (by omega)]; rfl
 | succ d ih =>
  intro k n hd hn hk
  obtain ⟨k, rfl⟩ : ∃ m, k = m + 1 := ⟨k - 1, by omega⟩
  simp only [cenotaphref02_Same.l0]
  rw [if_pos (by omega), if_pos (by omega), if_pos (by omega), rd_int, rd_int, drop_getD a 0 n (by omega), drop_getD b 0 n (by omega)]
  by_cases h : a.getD n 0 = b.getD n 0
  ·rw [if_pos h, wrap_nat (by omega), ih k (n + 1) (by omega) (by omega) (by omega), h]
   congr 1
   rw [decide_eq_decide]; simp
  ·rw [if_neg h]
   congr 1
   symm
   rw [decide_eq_false_iff_not]
   intro e
   exact h (List.cons.inj e).1
theorem sp_same (u1 u2 : Int) (a b : List Int) (hs : a.length < 8796093022208) (k : Nat) (hk : a.length + 1 < k) : cenotaphref02_Same.f k u1 a u2 b = some (decide (u1 = u2 ∧ a = b)) := by
 obtain ⟨k, rfl⟩ : ∃ m, k = m + 1 := ⟨k - 1, by omega⟩
 unfold cenotaphref02_Same.f
 by_cases h : u1 = u2
 ·rw [if_pos h]
  simp only [cenotaphref02_Same.j0]
  by_cases h2 : a.length = b.length
  ·have e : ((a.length : Int) != (b.length : Int)) = false := by rw [h2]; simp
   rw [e, if_neg (by simp)]
   have := rsame_loop u1 u2 a b h2 hs a.length k 0 (by omega) (by omega) (by omega)
   refine this.trans ?_
   congr 1
   rw [decide_eq_decide]; simp [h]
  ·have e : ((a.length : Int) != (b.length : Int)) = true := by rw [bne_iff_ne]; omega
   rw [e, if_pos rfl]
   congr 1
   symm
   rw [decide_eq_false_iff_not]
   rintro ⟨_, e⟩; subst e; exact h2 rfl
 ·rw [if_neg h]
  simp only [cenotaphref02_Same.j0]
  rw [if_pos trivial]
  congr 1
  symm
  rw [decide_eq_false_iff_not]
  exact fun e => h e.1
theorem ref_count (u : Int) (e : List Int) (h : OkS u e) (hl : e.length < 1000000) : cenotaphref02_Count.f u e = some (u + e.length) := by
 have ha := h.lo; have hb := h.up
 unfold cenotaphref02_Count.f
 rw [wrap_id (by omega) (by omega)]
theorem urem {v : Int} (h0 : -9223372036854775808 ≤ v) (h1 : v ≤ 9223372036854775807) (m : Int) (hm : 0 < m) (hm2 : m ≤ 1000000) : ∃ z : Int, Int.tmod (IntKind.u64.wrap v) m = z ∧ 0 ≤ z ∧ z < m := by
 have hw : 0 ≤ IntKind.u64.wrap v := by
  unfold IntKind.wrap
  have hb : IntKind.u64.bits = 64 := rfl
  have hs : IntKind.u64.signed = false := rfl
  simp only [hb, hs, Bool.false_and, Bool.false_eq_true, if_false]
  omega
 exact ⟨_, rfl, Int.tmod_nonneg m hw, Int.tmod_lt_of_pos _ hm⟩
theorem fix_loop (a : Int) (l : List Int) (hl : l.length ≤ 9223372036854775807) (hw : ∀ x ∈ l, (Lit.int .i64 x).wf = true) (d : Nat) : ∀ (n : Nat) (u : Int) (e : List Int) (k : Nat), 30 - n = d → n ≤ 30 → n ≤ l.length → OkS u e → (∀ m, memS u e m → m ≤ 60) → e.length ≤ n → d + 200 < k →
  ∃ u' e', cenotaphref02_Fix.l0 k (n : Int) a l u e = some (u', e') ∧ OkS u' e' ∧ (∀ m, memS u' e' m → m ≤ 60) ∧ e'.length ≤ 30 := by
 induction d with
 | zero =>
  intro n u e k hd hn hnl h hm hel hk
  obtain ⟨k, rfl⟩ : ∃ m, k = m + 1 := ⟨k - 1, by omega⟩
  refine ⟨u, e, ?_, h, hm, by omega⟩
  simp only [cenotaphref02_Fix.l0]
  by_cases h1 : (n : Int) < (l.length : Int)
  ·rw [if_pos h1, if_neg (by omega)]
  ·rw [if_neg h1]
 | succ d ih =>
  intro n u e k hd hn hnl h hm hel hk
  obtain ⟨k, rfl⟩ : ∃ m, k = m + 1 := ⟨k - 1, by omega⟩
  simp only [cenotaphref02_Fix.l0]
  by_cases h1 : (n : Int) < (l.length : Int)
  ·obtain ⟨w0, w1⟩ := wf_int (hw _ (getD_memZ (show n < l.length by omega)))
   obtain ⟨z, ez, z0, z1⟩ := urem w0 w1 60 (by omega) (by omega)
   rw [if_pos h1, if_pos (by omega), if_pos (by omega), rd_int, ez, wrap_id (i := z) (by omega) (by omega), wrap_id (i := 1 + z) (by omega) (by omega), ref_add u e _ h (by omega) k (by omega), Option.bind_some, wrap_nat (by omega)]
   obtain ⟨x, y, c⟩ := addS_ok h (1 + z)
   exact ih (n + 1) _ _ k (by omega) (by omega) (by omega) x (fun m hmm => ((y m).mp hmm).elim (hm m) (fun q => by omega)) (by omega) (by omega)
  ·rw [if_neg h1]
   exact ⟨u, e, rfl, h, hm, by omega⟩
theorem sp_fix (a : Int) (l : List Int) (ha : (Lit.int .i64 a).wf = true) (hl : l.length ≤ 9223372036854775807) (hw : ∀ x ∈ l, (Lit.int .i64 x).wf = true) (k : Nat) (hk : 500 < k) :
  ∃ u e, cenotaphref02_Fix.f k a l = some (u, e) ∧ OkS u e ∧ (∀ m, memS u e m → m ≤ 60) ∧ e.length ≤ 30 := by
 obtain ⟨w0, w1⟩ := wf_int ha
 obtain ⟨z, ez, z0, z1⟩ := urem w0 w1 40 (by omega) (by omega)
 unfold cenotaphref02_Fix.f
 rw [ez, wrap_id (by omega) (by omega)]
 refine fix_loop a l hl hw 30 0 z [] k (by omega) (by omega) (by omega) (OkS.nil z0 (by omega)) (fun m hm => ?_) (by simp) (by omega)
 rcases hm with hm | hm
 ·omega
 ·simp at hm
theorem sp_to (u : Int) (l : List Int) (hl : l.length < 1000000) : cenotaphlaw02_To.f u l = some (u, l) := by
 simp only [cenotaphlaw02_To.f, Option.bind_some, List.length_nil, List.nil_append]
 rw [if_pos (by omega)]
theorem sp_from (u : Int) (l : List Int) (hl : l.length < 1000000) : cenotaphlaw02_From.f u l = some (u, l) := by
 simp only [cenotaphlaw02_From.f, Option.bind_some, List.length_nil, List.nil_append]
 rw [if_pos (by omega)]
abbrev SN := S61
def tN : RoN SN := ⟨fun x => x.f0, fun x => x.f1.f0, fun x => x.f1.f1, fun a u e => ⟨a, ⟨u, e⟩⟩, fun _ _ _ => rfl, fun _ _ _ => rfl, fun _ _ _ => rfl, fun _ => rfl⟩
theorem rdN (l : List SN) (n : Nat) : rd_T61 l (n : Int) = l.getD n z61 := rfl
theorem right_small {a : ByteArray} (h : rightB a = true) : a.size ≤ 1000 := by have := kn_size h; omega
theorem ref_drop_loop4 (l : List SN) (a : ByteArray) (hl : l.length < 1000000) (d : Nat) : ∀ (k n : Nat) (acc : List SN), l.length - n = d → n ≤ l.length → acc.length + d < 1000000 → d < k →
  cenotaphref04_Drop.l0 k l a acc (n : Int) = some (acc ++ dropM tN.id a (l.drop n)) := by
 induction d with
 | zero =>
  intro k n acc hd hn ha hk
  obtain ⟨k, rfl⟩ : ∃ m, k = m + 1 := ⟨k - 1, by omega⟩
  simp only [cenotaphref04_Drop.l0]
  rw [if_neg (by omega), List.drop_eq_nil_of_le (by omega)]; simp [dropM]
 | succ d ih =>
  intro k n acc hd hn ha hk
  obtain ⟨k, rfl⟩ : ∃ m, k = m + 1 := ⟨k - 1, by omega⟩
  simp only [cenotaphref04_Drop.l0]
  rw [if_pos (by omega), if_pos (by omega), rdN, drop_getD l z61 n (by omega), wrap_nat (by omega)]
  generalize l.getD n z61 = x
  by_cases h : x.f0 = a
  ·rw [if_pos (kn_toL.mpr h), ih k (n + 1) acc (by omega) (by omega) (by omega) (by omega)]
   unfold dropM
   rw [List.filter_cons_of_neg (by rw [decide_eq_true_eq]; exact fun e => e h)]
  ·rw [if_neg (fun e => h (kn_toL.mp e)), if_pos (by omega), ih k (n + 1) _ (by omega) (by omega) (by simp; omega) (by omega)]
   unfold dropM
   rw [List.filter_cons_of_pos (by rw [decide_eq_true_eq]; exact h), List.append_assoc]; rfl
theorem ref_drop4 (l : List SN) (a : ByteArray) (hl : l.length < 100000) (k : Nat) (hk : l.length < k) : cenotaphref04_Drop.f k l a = some (dropM tN.id a l) := by
 have := ref_drop_loop4 l a (by omega) l.length k 0 [] (by omega) (by omega) (by simp; omega) hk
 simpa [cenotaphref04_Drop.f] using this
def gtN (u v : SN) : Bool := decide (ltB (tN.id v) (tN.id u))
theorem sinkO_is (v : SN) (hv : v.f0.size ≤ 1000) (k : Nat) (hk : 2100 < k) : ∀ (p q : List SN), (∀ x ∈ p, x.f0.size ≤ 1000) → sinkO k v p q = some (sinkR gtN v p q)
 | [], q, hs => rfl
 | u :: p, q, hs => by
  have hcc : (Lib.compareBytes u.f0.data.toList v.f0.data.toList > 0) ↔ gtN u v = true := by
   unfold gtN; rw [decide_eq_true_eq]; exact gtB
  have hu := hs u (by simp)
  unfold sinkO sinkR
  rw [ref_compare _ _ k (by omega) (by omega), Option.bind_some]
  by_cases hc : gtN u v = true
  ·rw [if_pos (hcc.mpr hc), if_pos hc]
   exact sinkO_is v hv k hk p (u :: q) (fun x hx => hs x (by simp [hx]))
  ·rw [if_neg (fun h => hc (hcc.mp h)), if_neg hc]
theorem small4 {m : List SN} (h : OkN tN m) : ∀ x ∈ m, x.f0.size ≤ 1000 := fun x hx => right_small (h.right x hx)
def RowIn (x : SN) : Prop := (Lit.int .i64 x.f1.f0).wf = true ∧ x.f1.f1.length ≤ 9223372036854775807 ∧ ∀ y ∈ x.f1.f1, (Lit.int .i64 y).wf = true
theorem ref_set4 {m : List SN} (h : OkN tN m) (hml : m.length < 1000) {q : Nat} (hq : LimN tN q m) (hq2 : q < 1000) (a : ByteArray) (ha : rightB a = true) {u : Int} {e : List Int} (hw : OkS u e) (hp : e.length ≤ q) {c : Int} (hlo : LowN tN c m) (hc : ∀ n, memS u e n → n ≤ c) (k : Nat) (hk : 5000 < k) :
  ∃ r, cenotaphref04_put.f k m a u e = some r ∧ OkN tN r ∧ r.length ≤ m.length + 1 ∧ LimN tN q r ∧ LowN tN c r := by
 obtain ⟨r, er, i, l⟩ : ∃ r, cenotaphref04_put.f k m a u e = some r ∧ OkN tN r ∧ r.length ≤ m.length + 1 ∧ LimN tN q r ∧ ∀ b n, memN tN r b n → memN tN m b n ∨ memS u e n := by
  have hdl := dropM_length (key := tN.id) a m
  have hs := okS_some hw
  unfold cenotaphref04_put.f
  rw [ref_drop4 m a (by omega) k (by omega), Option.bind_some, ref_count u e hw (by omega), Option.bind_some]
  by_cases hc : u + (e.length : Int) < 1
  ·rw [if_pos hc]
   exact ⟨_, rfl, h.drop a, by omega, LimN.sub hq (fun x hx => ((mem_dropM _ _ _).mp hx).1), fun b n hn => Or.inl ((memN_drop _ _ _ _).mp hn).2⟩
  ·rw [if_neg hc, if_pos (by omega), sinkO_is _ (right_small ha) k (by omega) _ _ (fun x hx => small4 (h.drop a) x (List.mem_reverse.mp hx))]
   refine ⟨_, rfl, h.put ha hw (hs.mpr (by omega)), putM_length _ _, hq.put a u hp, fun b n hn => ?_⟩
   have hn2 : memN tN (putM ltB tN.id (tN.of a u e) m) b n := hn
   unfold memN at hn2
   rw [ofN_put h.ks] at hn2
   by_cases hb : b = a
   ·rw [if_pos hb] at hn2; exact Or.inr hn2
   ·rw [if_neg hb] at hn2; exact Or.inl hn2
 exact ⟨r, er, i, l.1, l.2.1, fun b n hn => (l.2.2 b n hn).elim (hlo b n) (hc n)⟩
theorem fix_loop4 (l : List SN) (hl : ∀ x ∈ l, RowIn x) (d : Nat) : ∀ (n k : Nat) (out : List SN), 10 - n = d → n ≤ 10 → n ≤ l.length → OkN tN out → out.length ≤ n → LimN tN 30 out → LowN tN 60 out → 2 * d + 6000 < k →
  ∃ r, cenotaphref04_Fix.l0 k l out (n : Int) = some r ∧ OkN tN r ∧ r.length ≤ 10 ∧ LimN tN 30 r ∧ LowN tN 60 r := by
 induction d with
 | zero =>
  intro n k out hd hn hnl h hlen hL hW hk
  obtain ⟨k, rfl⟩ : ∃ m, k = m + 2 := ⟨k - 2, by omega⟩
  refine ⟨out, ?_, h, by omega, hL, hW⟩
  simp only [cenotaphref04_Fix.l0]
  have hdec : decide ((n : Int) < 10) = false := decide_eq_false (by omega)
  by_cases h1 : (n : Int) < (l.length : Int)
  ·rw [if_pos h1, hdec]; simp only [cenotaphref04_Fix.j1]; rw [if_neg (by simp)]
  ·rw [if_neg h1]; simp only [cenotaphref04_Fix.j1]; rw [if_neg (by simp)]
 | succ d ih =>
  intro n k out hd hn hnl h hlen hL hW hk
  obtain ⟨k, rfl⟩ : ∃ m, k = m + 2 := ⟨k - 2, by omega⟩
  simp only [cenotaphref04_Fix.l0]
  have hdec : decide ((n : Int) < 10) = true := decide_eq_true (by omega)
  by_cases h1 : (n : Int) < (l.length : Int)
  ·rw [if_pos h1, hdec]
   simp only [cenotaphref04_Fix.j1]
   have hx := hl _ (getD_mem (show n < l.length by omega) z61)
   rw [rdN]
   generalize l.getD n z61 = x at hx ⊢
   obtain ⟨u, e, ef, ok, hm, he⟩ := sp_fix x.f1.f0 x.f1.f1 hx.1 hx.2.1 hx.2.2 k (by omega)
   obtain ⟨r, er, r1, r2, r3, r4⟩ := ref_set4 h (by omega) hL (by omega) (fixB x.f0) (fixB_right x.f0) ok he hW hm k (by omega)
   rw [if_pos trivial, if_pos (by omega), if_pos h1, ref_fix _ k (by omega), Option.bind_some, ef, Option.bind_some, er, Option.bind_some, wrap_nat (by omega)]
   exact ih (n + 1) k r (by omega) (by omega) (by omega) r1 (by omega) r3 r4 (by omega)
  ·rw [if_neg h1]
   simp only [cenotaphref04_Fix.j1]
   rw [if_neg (by simp)]
   exact ⟨out, rfl, h, by omega, hL, hW⟩
theorem ref_fix4 (l : List SN) (hl : ∀ x ∈ l, RowIn x) (k : Nat) (hk : 7000 < k) : ∃ r, cenotaphref04_Fix.f k l = some r ∧ OkN tN r ∧ r.length ≤ 10 ∧ LimN tN 30 r ∧ LowN tN 60 r :=
 fix_loop4 l hl 10 0 k [] rfl (by omega) (by omega) OkN.nil (by simp) LimN.nil (fun a n h => absurd h (memN_nil a n)) (by omega)
theorem to_loop4 (l : List SN) (hl : l.length < 1000000) {q : Nat} (hq : LimN tN q l) (hq2 : q < 100000) (d : Nat) : ∀ (k n : Nat) (acc : List SK), l.length - n = d → n ≤ l.length → acc.length + d < 1000000 → d < k → cenotaphlaw04_To.l0 k l acc (n : Int) = some (acc ++ convN tN tK (l.drop n)) := by
 induction d with
 | zero =>
  intro k n acc hd hn ha hk
  obtain ⟨k, rfl⟩ : ∃ m, k = m + 1 := ⟨k - 1, by omega⟩
  simp only [cenotaphlaw04_To.l0]
  rw [if_neg (by omega), List.drop_eq_nil_of_le (by omega)]; simp [convN]
 | succ d ih =>
  intro k n acc hd hn ha hk
  obtain ⟨k, rfl⟩ : ∃ m, k = m + 1 := ⟨k - 1, by omega⟩
  simp only [cenotaphlaw04_To.l0]
  have hx : (l.getD n z61).f1.f1.length ≤ q := hq (l.getD n z61) (getD_mem (by omega) _)
  rw [if_pos (by omega), if_pos (by omega), rdN, sp_to _ _ (by omega), Option.bind_some, if_pos (by omega), wrap_nat (by omega), ih k (n + 1) _ (by omega) (by omega) (by simp; omega) (by omega), drop_getD l z61 n (by omega), List.append_assoc]
  rfl
theorem kn_to (l : List SN) (hl : l.length < 100000) {q : Nat} (hq : LimN tN q l) (hq2 : q < 100000) (k : Nat) (hk : l.length < k) : cenotaphlaw04_To.f k l = some (convN tN tK l) := by
 have := to_loop4 l (by omega) hq hq2 l.length k 0 [] (by omega) (by omega) (by simp; omega) hk
 simpa [cenotaphlaw04_To.f] using this
theorem fixed4 (l : List SN) (hl : ∀ x ∈ l, RowIn x) (k : Nat) (hk : 7000 < k) : ∃ r, cenotaphref04_Fix.f k l = some r ∧ OkN tN r ∧ r.length ≤ 10 ∧ LimN tN 30 r ∧ LowN tN 60 r ∧ cenotaphlaw04_To.f k r = some (convN tN tK r) ∧ OkN tK (convN tN tK r) ∧ (convN tN tK r).length ≤ 10 ∧ LimN tK 30 (convN tN tK r) ∧ LowN tK 60 (convN tN tK r) := by
 obtain ⟨r, e, h1, h2, h3, h4⟩ := ref_fix4 l hl k hk
 exact ⟨r, e, h1, h2, h3, h4, kn_to r (by omega) h3 (by omega) k (by omega), convN_ok h1, by rw [convN_length]; exact h2, h3.conv, h4.conv⟩
end Go.Proofs.YtkfehkaiifjkmaaGreat.Pure
namespace Go.Proofs.YtkfehkaiifjkmaaGreat
set_option linter.unusedVariables false
section
variable {ρ α : Type} {t : RoN ρ} {s : AtS α}
def firstsV (t : RoN ρ) (s : AtS α) : List ρ → List α
 | [] => []
 | x :: m => if 0 < t.u x then s.of (t.id x) (t.u x) :: firstsV t s m else firstsV t s m
theorem firstsV_mem : ∀ (m : List ρ) (y : α), y ∈ firstsV t s m → ∃ x ∈ m, s.id y = t.id x ∧ s.n y = t.u x ∧ 0 < t.u x
 | [], y, h => by cases h
 | x :: m, y, h => by
  rw [firstsV] at h
  by_cases hc : 0 < t.u x
  ·rw [if_pos hc] at h
   rcases List.mem_cons.mp h with e | h
   ·exact ⟨x, by simp, by rw [e, s.id_of], by rw [e, s.n_of], hc⟩
   ·obtain ⟨z, hz, e⟩ := firstsV_mem m y h
    exact ⟨z, by simp [hz], e⟩
  ·rw [if_neg hc] at h
   obtain ⟨z, hz, e⟩ := firstsV_mem m y h
   exact ⟨z, by simp [hz], e⟩
theorem firstsV_ks : ∀ {m : List ρ}, OkN t m → KS ltB s.id (firstsV t s m)
 | [], _ => KS.nil
 | x :: m, h => by
  rw [firstsV]
  by_cases hc : 0 < t.u x
  ·rw [if_pos hc]
   refine List.pairwise_cons.mpr ⟨fun y hy => ?_, firstsV_ks h.tail⟩
   obtain ⟨z, hz, e, _⟩ := firstsV_mem m y hy
   rw [s.id_of, e]
   exact h.ks.head hz
  ·rw [if_neg hc]; exact firstsV_ks h.tail
theorem firstsV_ok {m : List ρ} (h : OkN t m) : OkV s (firstsV t s m) := by
 refine ⟨⟨firstsV_ks h, fun y hy => ?_⟩, fun y hy => ?_, fun y hy => ?_⟩ <;> obtain ⟨x, hx, e1, e2, e3⟩ := firstsV_mem m y hy
 ·rw [e2]; omega
 ·rw [e1]; exact h.right x hx
 ·rw [e2]; exact (h.ok x hx).up
theorem ofN_head {x : ρ} {m : List ρ} (h : OkN t (x :: m)) {a : ByteArray} (e : t.id x = a) : ofN t m a = (0, []) := by
 rcases ofN_cases t m a with ⟨y, hy, e1, _, _⟩ | ⟨_, e2, _⟩
 ·have := h.ks.head hy
  rw [e1, e] at this
  exact absurd this (toB.irrefl _)
 ·exact e2
theorem ofV_firsts (a : ByteArray) : ∀ {m : List ρ}, OkN t m → ofV s (firstsV t s m) a = (ofN t m a).1
 | [], _ => rfl
 | x :: m, h => by
  have ih := ofV_firsts a h.tail
  rw [firstsV, ofN_cons]
  by_cases e : t.id x = a
  ·rw [if_pos e]
   by_cases hc : 0 < t.u x
   ·rw [if_pos hc, ofV_cons, s.id_of, if_pos e, s.n_of]
   ·rw [if_neg hc, ih, ofN_head h e]
    have := (h.ok x (by simp)).lo
    show (0 : Int) = t.u x
    omega
  ·rw [if_neg e]
   by_cases hc : 0 < t.u x
   ·rw [if_pos hc, ofV_cons, s.id_of, if_neg e, ih]
   ·rw [if_neg hc, ih]
theorem firstsV_length : ∀ m : List ρ, (firstsV t s m).length ≤ m.length
 | [] => Nat.le_refl _
 | x :: m => by
  have := firstsV_length m
  rw [firstsV]
  split
  ·simp only [List.length_cons]; omega
  ·simp only [List.length_cons]; omega
def rowsV (t : RoN ρ) (s : AtS α) (v : List α) : List ρ := v.map fun x => t.of (s.id x) (s.n x) []
theorem ofN_rows (a : ByteArray) : ∀ v : List α, ofN t (rowsV t s v) a = (ofV s v a, [])
 | [] => rfl
 | x :: v => by
  have ih := ofN_rows a v
  unfold rowsV at ih ⊢
  rw [List.map_cons, ofN_cons, t.id_of, t.u_of, t.e_of, ofV_cons, ih]
  by_cases e : s.id x = a
  ·rw [if_pos e, if_pos e]
  ·rw [if_neg e, if_neg e]
theorem memN_rows (v : List α) (a : ByteArray) (n : Int) : memN t (rowsV t s v) a n ↔ 1 ≤ n ∧ n ≤ ofV s v a := by
 unfold memN memS
 rw [ofN_rows]
 simp
theorem rowsV_ok {v : List α} (h : OkV s v) : OkN t (rowsV t s v) := by
 refine ⟨?_, fun y hy => ?_, fun y hy => ?_, fun y hy => ?_⟩
 ·unfold KS rowsV
  rw [List.pairwise_map]
  exact h.ks.imp fun {x y} hxy => by rw [t.id_of, t.id_of]; exact hxy
 ·obtain ⟨x, hx, e⟩ := List.mem_map.mp hy
  have := h.pos x hx
  rw [← e, t.u_of, t.e_of]; exact OkS.nil (by omega) (h.le x hx)
 ·obtain ⟨x, hx, e⟩ := List.mem_map.mp hy
  have := h.pos x hx
  rw [← e, t.u_of, t.e_of]; exact ⟨1, Or.inl ⟨by omega, this⟩⟩
 ·obtain ⟨x, hx, e⟩ := List.mem_map.mp hy
  rw [← e, t.id_of]; exact h.right x hx
theorem rowsV_lim (q : Nat) (v : List α) : LimN t q (rowsV t s v) := fun y hy => by
 obtain ⟨x, hx, e⟩ := List.mem_map.mp hy
 rw [← e, t.e_of]; exact Nat.zero_le _
theorem rowsV_length (v : List α) : (rowsV t s v).length = v.length := by simp [rowsV]
theorem ofN_filter (p : ByteArray → Bool) (a : ByteArray) : ∀ m : List ρ, ofN t (m.filter fun x => p (t.id x)) a = if p a = true then ofN t m a else (0, [])
 | [] => by simp [ofN_nil]
 | x :: m => by
  have ih := ofN_filter p a m
  by_cases hx : p (t.id x) = true
  ·rw [List.filter_cons_of_pos (by simpa using hx), ofN_cons, ofN_cons, ih]
   by_cases e : t.id x = a
   ·rw [if_pos e, if_pos e, if_pos (by rw [← e]; exact hx)]
   ·rw [if_neg e, if_neg e]
  ·rw [List.filter_cons_of_neg (by simpa using hx), ofN_cons, ih]
   by_cases hp : p a = true
   ·rw [if_pos hp, if_pos hp, if_neg (fun e => hx (by rw [e]; exact hp))]
   ·rw [if_neg hp, if_neg hp]
theorem memN_filter (p : ByteArray → Bool) (m : List ρ) (a : ByteArray) (n : Int) : memN t (m.filter fun x => p (t.id x)) a n ↔ p a = true ∧ memN t m a n := by
 unfold memN
 rw [ofN_filter]
 by_cases hp : p a = true
 ·rw [if_pos hp]; exact ⟨fun h => ⟨hp, h⟩, fun h => h.2⟩
 ·rw [if_neg hp]; exact ⟨fun h => absurd h (memS_none n), fun h => absurd h.1 hp⟩
theorem OkN.filter {m : List ρ} (h : OkN t m) (p : ρ → Bool) : OkN t (m.filter p) := h.sub List.filter_sublist
theorem LimN.filter {q : Nat} {m : List ρ} (h : LimN t q m) (p : ρ → Bool) : LimN t q (m.filter p) := h.sub fun x hx => (List.mem_filter.mp hx).1
theorem extN_nonneg : ∀ m : List ρ, 0 ≤ extN t m
 | [] => Int.le_refl _
 | x :: m => by have := extN_nonneg m; rw [extN]; omega
theorem extN_zero : ∀ m : List ρ, extN t m = 0 ↔ ∀ x ∈ m, t.e x = []
 | [] => by simp [extN]
 | x :: m => by
  have ih := extN_zero m
  have h0 := extN_nonneg (t := t) m
  rw [extN, List.forall_mem_cons]
  constructor
  ·intro h
   exact ⟨List.eq_nil_of_length_eq_zero (by omega), ih.mp (by omega)⟩
  ·rintro ⟨h1, h2⟩
   rw [h1, ih.mpr h2]; rfl
theorem rows_firsts {m : List ρ} (h : OkN t m) {v : List α} (hv : OkV s v) (hf : ∀ a, ofV s v a = (ofN t m a).1) : rowsV t s v = m ↔ extN t m = 0 := by
 rw [extN_zero]
 constructor
 ·intro e x hx
  rw [← e] at hx
  obtain ⟨y, _, e2⟩ := List.mem_map.mp hx
  rw [← e2, t.e_of]
 ·intro he
  refine OkN.ext (rowsV_ok hv) h fun a n => ?_
  rw [memN_rows, hf]
  unfold memN memS
  have : (ofN t m a).2 = [] := by
   rcases ofN_cases t m a with ⟨x, hx, _, e, _⟩ | ⟨_, e, _⟩
   ·rw [e]; exact he x hx
   ·rw [e]
  rw [this]
  simp
theorem rows_sub {m : List ρ} {v : List α} (hf : ∀ a, ofV s v a = (ofN t m a).1) : subN t (rowsV t s v) m := fun a n hn => by
 rw [memN_rows, hf] at hn
 exact Or.inl hn
end
end Go.Proofs.YtkfehkaiifjkmaaGreat
namespace Go.Proofs.YtkfehkaiifjkmaaGreat.Pure
open Go.RowKit Go.Proofs.YtkfehkaiifjkmaaGreat Go.Proofs.YtkfehkaiifjkmaaGreat.P Go.Proofs.YtkfehkaiifjkmaaGreatW.PrintWords Go.Proofs.YtkfehkaiifjkmaaGreatW.PrintLast
set_option linter.unusedVariables false
set_option linter.unusedSimpArgs false
abbrev SA := S75
def sA : AtS SA := ⟨fun x => x.f0, fun x => x.f1, fun a n => ⟨a, n⟩, fun _ _ => rfl, fun _ _ => rfl, fun _ => rfl⟩
theorem toL_eq {a b : ByteArray} : a.toList = b.toList ↔ a = b := by
 rw [Lib.toList_data, Lib.toList_data]
 exact ⟨fun h => bytes_ext h, fun h => by rw [h]⟩
theorem rdA (l : List SA) (n : Nat) : rd_T75 l (n : Int) = l.getD n z75 := rfl
theorem findA {l : List SA} (h : PV sA l) (a : ByteArray) :
  (bsB (fun i => cmpB (l.getD i z75).f0 a) l.length = true → ∃ hi : bsN (fun i => cmpB (l.getD i z75).f0 a) l.length < l.length, (l[bsN (fun i => cmpB (l.getD i z75).f0 a) l.length]).f0 = a ∧ getM sA.id a l = some l[bsN (fun i => cmpB (l.getD i z75).f0 a) l.length]) ∧
  (bsB (fun i => cmpB (l.getD i z75).f0 a) l.length = false → getM sA.id a l = none ∧ bsN (fun i => cmpB (l.getD i z75).f0 a) l.length ≤ l.length ∧
   (∀ x ∈ l.take (bsN (fun i => cmpB (l.getD i z75).f0 a) l.length), ltB x.f0 a) ∧ ∀ x ∈ l.drop (bsN (fun i => cmpB (l.getD i z75).f0 a) l.length), ltB a x.f0) := find_spec (key := sA.id) z75 h.ks a
theorem vec_set {l : List SA} (h : PV sA l) (hl : l.length < 1000000000) (a : ByteArray) (m : Int) : vec_Set.f l a m = some (setV sA l a m) := by
 obtain ⟨h1, h2⟩ := findA h a
 unfold vec_Set.f
 rw [if_pos hl]
 congr 1
 unfold vec_Set.v setV
 by_cases hc : rightB a = true ∧ 1 ≤ m
 ·rw [if_pos hc, if_pos hc]
  have hn := h.nonneg a
  cases hb : bsB (fun i => cmpB (l.getD i z75).f0 a) l.length with
  | true =>
   obtain ⟨hi, e, g⟩ := h1 hb
   have ho : ofV sA l a = (l[bsN (fun i => cmpB (l.getD i z75).f0 a) l.length]).f1 := by unfold ofV; rw [g]; rfl
   rw [if_pos rfl]
   unfold putV
   rw [if_neg (by omega), mx_max, mn_min, getD_eq hi]
   rw [← putM_set toB (sA.of a (max (ofV sA l a) (min m 1048576))) h.ks hi e, ho]
   congr 1
   show (⟨_, _⟩ : SA) = ⟨a, _⟩
   rw [e]
  | false =>
   obtain ⟨g, _, hp, hq⟩ := h2 hb
   have ho : ofV sA l a = 0 := by unfold ofV; rw [g]
   rw [if_neg (by simp)]
   unfold putV
   rw [if_neg (by omega), ho, mn_min, show max 0 (min m 1048576) = min m 1048576 by omega]
   have := putM_parts (lt := ltB) (key := sA.id) toB (sA.of a (min m 1048576)) (p := l.take (bsN (fun i => cmpB (l.getD i z75).f0 a) l.length)) (q := l.drop (bsN (fun i => cmpB (l.getD i z75).f0 a) l.length)) (by rw [List.take_append_drop]; exact h.ks) hp hq
   rw [List.take_append_drop] at this
   exact this
 ·rw [if_neg hc, if_neg hc]
abbrev SR := S65
def sR : AtS SR := ⟨fun x => x.f0, fun x => x.f1, fun a n => ⟨a, n⟩, fun _ _ => rfl, fun _ _ => rfl, fun _ => rfl⟩
theorem rdR (l : List SR) (n : Nat) : rd_T65 l (n : Int) = l.getD n z65 := rfl
theorem rdR_succ (l : List SR) (n : Nat) : rd_T65 l ((n : Int) + 1) = l.getD (n + 1) z65 := rfl
def SmallR (l : List SR) : Prop := ∀ x ∈ l, x.f0.size ≤ 1000
theorem right_size {a : ByteArray} (h : rightB a = true) : a.size ≤ 6 := by
 rw [rightB_eq] at h
 have hs := size_list a
 cases e : a.data.toList with
 | nil => rw [e] at h; simp [idL] at h
 | cons c t =>
  rw [e] at h hs
  simp only [idL, Bool.and_eq_true, decide_eq_true_eq] at h
  simp only [List.length_cons] at hs
  omega
theorem small_of {l : List SR} (h : OkV sR l) : SmallR l := fun x hx => by have := right_size (h.right x hx); have e : sR.id x = x.f0 := rfl; rw [e] at this; omega
theorem ref_drop_loop (l : List SR) (a : ByteArray) (hl : l.length < 1000000) (d : Nat) : ∀ (k n : Nat) (acc : List SR), l.length - n = d → n ≤ l.length → acc.length + d < 1000000 → d < k →
  cenotaphref03_Drop.l0 k l a acc (n : Int) = some (acc ++ dropM sR.id a (l.drop n)) := by
 induction d with
 | zero =>
  intro k n acc hd hn ha hk
  obtain ⟨k, rfl⟩ : ∃ m, k = m + 1 := ⟨k - 1, by omega⟩
  simp only [cenotaphref03_Drop.l0]
  rw [if_neg (by omega), List.drop_eq_nil_of_le (by omega)]; simp [dropM]
 | succ d ih =>
  intro k n acc hd hn ha hk
  obtain ⟨k, rfl⟩ : ∃ m, k = m + 1 := ⟨k - 1, by omega⟩
  simp only [cenotaphref03_Drop.l0]
  rw [if_pos (by omega), if_pos (by omega), rdR, drop_getD l z65 n (by omega), wrap_nat (by omega)]
  generalize l.getD n z65 = x
  by_cases h : x.f0 = a
  ·rw [if_pos (toL_eq.mpr h), ih k (n + 1) acc (by omega) (by omega) (by omega) (by omega)]
   unfold dropM
   rw [List.filter_cons_of_neg (by rw [decide_eq_true_eq]; exact fun e => e h)]
  ·rw [if_neg (fun e => h (toL_eq.mp e)), if_pos (by omega), ih k (n + 1) _ (by omega) (by omega) (by simp; omega) (by omega)]
   unfold dropM
   rw [List.filter_cons_of_pos (by rw [decide_eq_true_eq]; exact h), List.append_assoc]; rfl
theorem ref_drop (l : List SR) (a : ByteArray) (hl : l.length < 100000) (k : Nat) (hk : l.length < k) : cenotaphref03_Drop.f k l a = some (dropM sR.id a l) := by
 have := ref_drop_loop l a (by omega) l.length k 0 [] (by omega) (by omega) (by simp; omega) hk
 simpa [cenotaphref03_Drop.f] using this
def gtR (u v : SR) : Bool := decide (ltB (sR.id v) (sR.id u))
theorem ref_sink (v : SR) (hv : v.f0.size ≤ 1000) : ∀ (p q : List SR), SmallR p → p.length + q.length < 1000000 → ∀ k, p.length + 2100 < k →
  cenotaphref03_put.l0 k (p.reverse ++ v :: q) (p.length : Int) = some (sinkR gtR v p q)
 | [], q, hs, hl, k, hk => by
  obtain ⟨k, rfl⟩ : ∃ m, k = m + 1 := ⟨k - 1, by omega⟩
  simp only [cenotaphref03_put.l0]
  rw [if_neg (by simp)]; rfl
 | u :: p, q, hs, hl, k, hk => by
  obtain ⟨k, rfl⟩ : ∃ m, k = m + 1 := ⟨k - 1, by omega⟩
  simp only [List.length_cons] at hl hk
  have hu := hs u (by simp)
  have hj : ((u :: p).length : Int) = (p.length : Int) + 1 := by simp
  have hL : ((u :: p).reverse ++ v :: q) = p.reverse ++ u :: v :: q := by simp
  have hlen : ((u :: p).reverse ++ v :: q).length = p.length + 2 + q.length := by simp; omega
  have hg0 : (p.reverse ++ u :: v :: q).getD p.length z65 = u := by simp [List.getD]
  have hg1 : (p.reverse ++ u :: v :: q).getD (p.length + 1) z65 = v := by simp [List.getD]
  have hsw := swap_at z65 p.reverse u v q
  rw [List.length_reverse, hg0, hg1] at hsw
  simp only [cenotaphref03_put.l0]
  rw [hj, if_pos (by omega), wrap_id (by omega) (by omega), Int.add_sub_cancel, if_pos (by omega), if_pos (by omega), if_pos (by omega), if_pos (by omega), hL, rdR_succ, rdR, hg0, hg1, ref_compare _ _ k (by omega) (by omega), Option.bind_some, Int.toNat_natCast, show ((p.length : Int) + 1).toNat = p.length + 1 by omega]
  have hcc : (Lib.compareBytes u.f0.data.toList v.f0.data.toList > 0) ↔ gtR u v = true := by
   unfold gtR; rw [decide_eq_true_eq]; exact gtB
  unfold sinkR
  by_cases hc : gtR u v = true
  ·rw [if_pos (hcc.mpr hc), if_pos hc]
   have e : (⟨v.f0, v.f1⟩ : SR) = v := rfl
   have e2 : (⟨u.f0, u.f1⟩ : SR) = u := rfl
   rw [e, e2, hsw]
   exact ref_sink v hv p (u :: q) (fun x hx => hs x (by simp [hx])) (by simp; omega) k (by omega)
  ·rw [if_neg (fun h => hc (hcc.mp h)), if_neg hc]
   simp
theorem ref_put {l : List SR} (hs : SmallR l) (hl : l.length < 10000) (a : ByteArray) (ha : a.size ≤ 1000) (m : Int) (k : Nat) (hk : 20000 < k) : cenotaphref03_put.f k l a m = some (putV sR l a m) := by
 unfold cenotaphref03_put.f putV
 have hdl := dropM_length (key := sR.id) a l
 rw [ref_drop l a (by omega) k (by omega), Option.bind_some]
 by_cases hm : m < 1
 ·rw [if_pos hm, if_pos hm]
 ·rw [if_neg hm, if_neg hm, if_pos (by omega), Option.bind_some]
  have e : wrap64 (((dropM sR.id a l ++ [(⟨a, m⟩ : SR)]).length : Int) - 1) = ((dropM sR.id a l).reverse.length : Int) := by
   rw [wrap_id (by rw [List.length_append, List.length_singleton]; omega) (by rw [List.length_append, List.length_singleton]; omega), List.length_append, List.length_singleton, List.length_reverse]; omega
  have := ref_sink ⟨a, m⟩ ha (dropM sR.id a l).reverse [] (fun x hx => hs x ((mem_dropM _ _ _).mp (by simpa using hx)).1) (by simp; omega) k (by simp; omega)
  rw [e]
  rw [List.reverse_reverse] at this
  exact this
instance : DecidableEq SR := fun x y => decidable_of_iff (x.f0 = y.f0 ∧ x.f1 = y.f1) ⟨fun h => sR.ext h.1 h.2, fun e => e ▸ ⟨rfl, rfl⟩⟩
theorem rt_ext {x y : SR} : (!((x.f0.toList == y.f0.toList)) || (!(x.f1 == y.f1))) = true ↔ x ≠ y := by
 rw [Bool.or_eq_true, Bool.not_eq_true', Bool.not_eq_true', beq_eq_false_iff_ne, beq_eq_false_iff_ne, ne_eq, toL_eq]
 cases x; cases y
 simp only [ne_eq, S65.mk.injEq]
 exact Classical.not_and_iff_not_or_not.symm
theorem ref_same_loop3 (a b : List SR) (hl : a.length = b.length) (hs : a.length < 1000000) (d : Nat) : ∀ (k n : Nat), a.length - n = d → n ≤ a.length → d < k →
  cenotaphref03_Same.l0 k a b (n : Int) = some (decide (a.drop n = b.drop n)) := by
 induction d with
 | zero =>
  intro k n hd hn hk
  obtain ⟨k, rfl⟩ : ∃ m, k = m + 1 := ⟨k - 1, by omega⟩
  simp only [cenotaphref03_Same.l0]
  rw [if_neg (by omega), List.drop_eq_nil_of_le (by omega), List.drop_eq_nil_of_le (by omega)]; simp
 | succ d ih =>
  intro k n hd hn hk
  obtain ⟨k, rfl⟩ : ∃ m, k = m + 1 := ⟨k - 1, by omega⟩
  simp only [cenotaphref03_Same.l0]
  rw [if_pos (by omega), if_pos (by omega), if_pos (by omega), rdR, rdR, drop_getD a z65 n (by omega), drop_getD b z65 n (by omega)]
  by_cases h : a.getD n z65 = b.getD n z65
  ·rw [if_neg (fun e => rt_ext.mp e h), wrap_nat (by omega), ih k (n + 1) (by omega) (by omega) (by omega), h]
   congr 1
   rw [decide_eq_decide]; simp
  ·rw [if_pos (rt_ext.mpr h)]
   congr 1
   symm
   rw [decide_eq_false_iff_not]
   intro e
   exact h (List.cons.inj e).1
theorem ref_same3 (a b : List SR) (hs : a.length < 1000000) (k : Nat) (hk : a.length < k) : cenotaphref03_Same.f k a b = some (decide (a = b)) := by
 unfold cenotaphref03_Same.f
 by_cases h : a.length = b.length
 ·rw [if_pos (by omega)]
  have := ref_same_loop3 a b h hs a.length k 0 (by omega) (by omega) hk
  simpa using this
 ·rw [if_neg (by omega)]
  congr 1
  symm
  rw [decide_eq_false_iff_not]
  intro e; subst e; exact h rfl
theorem urem3 {v : Int} (m : Int) (hm : 0 < m) (hm2 : m ≤ 1000000) : ∃ z : Int, Int.tmod (IntKind.u64.wrap v) m = z ∧ 0 ≤ z ∧ z < m := by
 have hw : 0 ≤ IntKind.u64.wrap v := by
  unfold IntKind.wrap
  have hb : IntKind.u64.bits = 64 := rfl
  have hs : IntKind.u64.signed = false := rfl
  simp only [hb, hs, Bool.false_and, Bool.false_eq_true, if_false]
  omega
 exact ⟨_, rfl, Int.tmod_nonneg m hw, Int.tmod_lt_of_pos _ hm⟩
theorem putV_okV {l : List SR} (h : OkV sR l) {a : ByteArray} (ha : rightB a = true) {m : Int} (hm : m ≤ 1048576) : OkV sR (putV sR l a m) := by
 refine OkV.of_PV (putV_PV h.toPV a m) (fun i hi => ?_) (fun i => ?_)
 ·rw [ofV_put h.toPV] at hi
  by_cases e : i = a
  ·rw [e]; exact ha
  ·rw [if_neg e] at hi; exact h.right_of hi
 ·rw [ofV_put h.toPV]
  have := h.le_of i
  split
  ·split <;> omega
  ·exact this
theorem fix_loop3 (l : List SR) (d : Nat) : ∀ (n k : Nat) (out : List SR), 12 - n = d → n ≤ 12 → n ≤ l.length → OkV sR out → out.length ≤ n → 2 * d + 30000 < k →
  ∃ r, cenotaphref03_Fix.l0 k l out (n : Int) = some r ∧ OkV sR r ∧ r.length ≤ 12 := by
 induction d with
 | zero =>
  intro n k out hd hn hnl h hl hk
  obtain ⟨k, rfl⟩ : ∃ m, k = m + 2 := ⟨k - 2, by omega⟩
  refine ⟨out, ?_, h, by omega⟩
  simp only [cenotaphref03_Fix.l0]
  have hdec : decide ((n : Int) < 12) = false := decide_eq_false (by omega)
  by_cases h1 : (n : Int) < (l.length : Int)
  ·rw [if_pos h1, hdec]; simp only [cenotaphref03_Fix.j1]; rw [if_neg (by simp)]
  ·rw [if_neg h1]; simp only [cenotaphref03_Fix.j1]; rw [if_neg (by simp)]
 | succ d ih =>
  intro n k out hd hn hnl h hl hk
  obtain ⟨k, rfl⟩ : ∃ m, k = m + 2 := ⟨k - 2, by omega⟩
  simp only [cenotaphref03_Fix.l0]
  have hdec : decide ((n : Int) < 12) = true := decide_eq_true (by omega)
  by_cases h1 : (n : Int) < (l.length : Int)
  ·rw [if_pos h1, hdec]
   simp only [cenotaphref03_Fix.j1]
   obtain ⟨z, ez, z0, z1⟩ := urem3 (v := (rd_T65 l (n : Int)).f1) 1000 (by omega) (by omega)
   have hf := fixB_right (rd_T65 l (n : Int)).f0
   have hsz := right_size hf
   have hlen := putV_length (s := sR) out (fixB (rd_T65 l (n : Int)).f0) (1 + z)
   rw [if_pos trivial, if_pos (by omega), if_pos h1, ref_fix _ _ (by omega), Option.bind_some, ez, wrap_id (i := z) (by omega) (by omega), wrap_id (i := 1 + z) (by omega) (by omega), ref_put (small_of h) (by omega) _ (by omega) _ k (by omega), Option.bind_some, wrap_nat (by omega)]
   exact ih (n + 1) k _ (by omega) (by omega) (by omega) (putV_okV h hf (by omega)) (by omega) (by omega)
  ·rw [if_neg h1]; simp only [cenotaphref03_Fix.j1]; rw [if_neg (by simp)]
   exact ⟨out, rfl, h, by omega⟩
theorem ref_fix3 (l : List SR) (k : Nat) (hk : 40000 < k) : ∃ r, cenotaphref03_Fix.f k l = some r ∧ OkV sR r ∧ r.length ≤ 12 := by
 unfold cenotaphref03_Fix.f
 exact fix_loop3 l 12 0 k [] (by omega) (by omega) (by omega) OkV.nil (by simp) (by omega)
theorem rd_nat10 {α : Type} (d : α) (l : List α) (n : Nat) : rdOf d l (n : Int) = l.getD n d := rfl
theorem to_loop (l : List ByteArray) (hl : l.length < 8796093022208) (d : Nat) : ∀ (k n : Nat), l.length - n = d → n ≤ l.length → d < k → cenotaphlaw01_To.l0 k l (l.take n) (n : Int) = some l := by
 induction d with
 | zero =>
  intro k n hd hn hk
  obtain ⟨k, rfl⟩ : ∃ m, k = m + 1 := ⟨k - 1, by omega⟩
  simp only [cenotaphlaw01_To.l0]; rw [if_neg (by omega), List.take_of_length_le (by omega)]
 | succ d ih =>
  intro k n hd hn hk
  obtain ⟨k, rfl⟩ : ∃ m, k = m + 1 := ⟨k - 1, by omega⟩
  simp only [cenotaphlaw01_To.l0]
  rw [if_pos (by omega), if_pos (by omega), if_pos (by rw [List.length_take]; omega), rd_nat10, take_succ_getD _ _ _ (by omega), wrap_id (by omega) (by omega)]
  exact ih k (n + 1) (by omega) (by omega) (by omega)
theorem to_ok (l : List ByteArray) (hl : l.length < 8796093022208) (k : Nat) (hk : l.length < k) : cenotaphlaw01_To.f k l = some l := to_loop l hl l.length k 0 (by omega) (by omega) hk
theorem rd_nat {α : Type} (d : α) (l : List α) (n : Nat) : rdOf d l (n : Int) = l.getD n d := by
 unfold rdOf; rw [Int.toNat_natCast]
theorem rd_succ {α : Type} (d : α) (l : List α) (n : Nat) : rdOf d l ((n : Int) + 1) = l.getD (n + 1) d := rd_nat d l (n + 1)
def SmallB (l : List ByteArray) : Prop := ∀ x ∈ l, x.size ≤ 9223372036854775807
theorem ref_compare_t (a b : ByteArray) (ha : a.size ≤ 9223372036854775807) : Tells (fun k => cenotaphref01_Compare.f k a b) (cmpB a b) :=
 ⟨2 * a.size + 2, fun k hk => ref_compare a b k ha hk⟩
theorem toList_eq {a b : ByteArray} : a.toList = b.toList ↔ a = b := by
 rw [Lib.toList_data, Lib.toList_data]
 exact ⟨fun h => bytes_ext h, fun h => by rw [h]⟩
theorem ref_has_loop (l : List ByteArray) (a : ByteArray) (hl : l.length < 8796093022208) (d : Nat) : ∀ (k n : Nat), l.length - n = d → n ≤ l.length → d < k →
  ∃ b, cenotaphref01_Has.l0 k l a (n : Int) = some b ∧ (b = true ↔ a ∈ l.drop n) := by
 induction d with
 | zero =>
  intro k n hd hn hk
  obtain ⟨k, rfl⟩ : ∃ m, k = m + 1 := ⟨k - 1, by omega⟩
  simp only [cenotaphref01_Has.l0]; rw [if_neg (by omega), List.drop_eq_nil_of_le (by omega)]
  exact ⟨false, rfl, by simp⟩
 | succ d ih =>
  intro k n hd hn hk
  obtain ⟨k, rfl⟩ : ∃ m, k = m + 1 := ⟨k - 1, by omega⟩
  have hlt : n < l.length := by omega
  simp only [cenotaphref01_Has.l0]; rw [if_pos (by omega), if_pos (by omega), rd_nat, drop_getD l ByteArray.empty n hlt]
  by_cases h : l.getD n ByteArray.empty = a
  ·rw [if_pos (toList_eq.mpr h), h]; exact ⟨true, rfl, by simp⟩
  ·rw [if_neg (fun e => h (toList_eq.mp e)), wrap_id (by omega) (by omega)]
   obtain ⟨b, e, hb⟩ := ih k (n + 1) (by omega) (by omega) (by omega)
   refine ⟨b, e, ?_⟩
   rw [hb, List.mem_cons]
   exact ⟨Or.inr, fun e => e.resolve_left fun e => h e.symm⟩
theorem ref_has (l : List ByteArray) (a : ByteArray) (hl : l.length < 8796093022208) (k : Nat) (hk : l.length < k) : ∃ b, cenotaphref01_Has.f k l a = some b ∧ (b = true ↔ a ∈ l) := by
 obtain ⟨b, e, h⟩ := ref_has_loop l a hl l.length k 0 (by omega) (by omega) hk
 exact ⟨b, e, by simpa using h⟩
def gtb (u v : ByteArray) : Bool := decide (cmpB u v > 0)
theorem ref_union_sink (x6 : List ByteArray) (x7 : Int) (r : List ByteArray) (v : ByteArray) : ∀ (p q : List ByteArray), SmallB p → p.length + q.length < 8796093022208 →
  Tells (fun k => cenotaphref01_Union.l0 k (sinkR gtb v p q) x6 (wrap64 (x7 + 1))) r →
  Tells (fun k => cenotaphref01_Union.l1 k (p.reverse ++ v :: q) x6 x7 (p.length : Int)) r
 | [], q, hs, hl, ⟨k0, h⟩ => by
  refine ⟨k0 + 1, fun k hk => ?_⟩
  obtain ⟨k, rfl⟩ : ∃ m, k = m + 1 := ⟨k - 1, by omega⟩
  simp only [cenotaphref01_Union.l1]
  rw [if_neg (by simp)]
  exact h k (by omega)
 | u :: p, q, hs, hl, ht => by
  simp only [List.length_cons] at hl
  obtain ⟨k1, h1⟩ := ref_compare_t u v (hs u (by simp))
  have hj : ((u :: p).length : Int) = (p.length : Int) + 1 := by simp
  have hL : ((u :: p).reverse ++ v :: q) = p.reverse ++ u :: v :: q := by simp
  have hlen : ((u :: p).reverse ++ v :: q).length = p.length + 2 + q.length := by simp; omega
  have hg0 : (p.reverse ++ u :: v :: q).getD p.length ByteArray.empty = u := by simp [List.getD]
  have hg1 : (p.reverse ++ u :: v :: q).getD (p.length + 1) ByteArray.empty = v := by simp [List.getD]
  have hsw := swap_at ByteArray.empty p.reverse u v q
  rw [List.length_reverse, hg0, hg1] at hsw
  have step : ∀ k, cenotaphref01_Union.l1 (k + 1) ((u :: p).reverse ++ v :: q) x6 x7 ((u :: p).length : Int) = ((cenotaphref01_Compare.f k u v).bind fun t => if t > 0 then cenotaphref01_Union.l1 k (p.reverse ++ v :: u :: q) x6 x7 (p.length : Int) else cenotaphref01_Union.l0 k ((u :: p).reverse ++ v :: q) x6 (wrap64 (x7 + 1))) := by
   intro k
   simp only [cenotaphref01_Union.l1]
   rw [hj, if_pos (by omega), wrap_id (by omega) (by omega), Int.add_sub_cancel, if_pos (by omega), if_pos (by omega), if_pos (by omega), if_pos (by omega), hL, rd_succ, rd_nat, hg0, hg1, Int.toNat_natCast, show ((p.length : Int) + 1).toNat = p.length + 1 by omega, hsw]
  by_cases hc : cmpB u v > 0
  ·have hgt : gtb u v = true := decide_eq_true hc
   unfold sinkR at ht
   rw [if_pos hgt] at ht
   obtain ⟨k2, h2⟩ := ref_union_sink x6 x7 r v p (u :: q) (fun x hx => hs x (by simp [hx])) (by simp; omega) ht
   refine ⟨k1 + k2 + 1, fun k hk => ?_⟩
   obtain ⟨k, rfl⟩ : ∃ m, k = m + 1 := ⟨k - 1, by omega⟩
   simp only [step, h1 k (by omega), Option.bind_some]
   rw [if_pos hc]
   exact h2 k (by omega)
  ·have hgt : ¬ gtb u v = true := fun e => hc (of_decide_eq_true e)
   unfold sinkR at ht
   rw [if_neg hgt] at ht
   obtain ⟨k2, h2⟩ := ht
   refine ⟨k1 + k2 + 1, fun k hk => ?_⟩
   obtain ⟨k, rfl⟩ : ∃ m, k = m + 1 := ⟨k - 1, by omega⟩
   simp only [step, h1 k (by omega), Option.bind_some]
   rw [if_neg hc]
   exact h2 k (by omega)
theorem sinkB_sorted (v : ByteArray) (l : List ByteArray) (hn : v ∉ l) (hs : l.Pairwise ltB) : (sink gtb v l).Pairwise ltB :=
 sink_sorted toB v l (fun u _ => by unfold gtb; rw [decide_eq_true_eq]; exact gtB) hn hs
theorem ref_union_loop (x6 : List ByteArray) (h6 : SmallB x6) (d : Nat) : ∀ (n : Nat) (x5 : List ByteArray), x6.length - n = d → n ≤ x6.length → SmallB x5 → x5.Pairwise ltB → x6.length < 8796093022208 → x5.length + d < 8796093022208 →
  ∃ r : List ByteArray, Tells (fun k => cenotaphref01_Union.l0 k x5 x6 (n : Int)) r ∧ r.Pairwise ltB ∧ ∀ x, x ∈ r ↔ x ∈ x5 ∨ x ∈ x6.drop n := by
 induction d with
 | zero =>
  intro n x5 hd hn hs hp hl1 hl2
  refine ⟨x5, ⟨1, fun k hk => ?_⟩, hp, fun x => by rw [List.drop_eq_nil_of_le (by omega)]; simp⟩
  obtain ⟨k, rfl⟩ : ∃ m, k = m + 1 := ⟨k - 1, by omega⟩
  simp only [cenotaphref01_Union.l0]; rw [if_neg (by omega)]
 | succ d ih =>
  intro n x5 hd hn hs hp hl1 hl2
  have hlt : n < x6.length := by omega
  generalize hv : x6.getD n ByteArray.empty = v
  have hvm : v ∈ x6 := hv ▸ getD_mem hlt _
  have hdrop := drop_getD x6 ByteArray.empty n hlt
  rw [hv] at hdrop
  have hcast : wrap64 ((n : Int) + 1) = ((n + 1 : Nat) : Int) := by rw [wrap_id (by omega) (by omega)]; rfl
  by_cases hm : v ∈ x5
  ·obtain ⟨r, ⟨k1, h1⟩, h2, h3⟩ := ih (n + 1) x5 (by omega) (by omega) hs hp hl1 (by omega)
   refine ⟨r, ⟨k1 + x5.length + 2, fun k hk => ?_⟩, h2, fun x => ?_⟩
   ·obtain ⟨k, rfl⟩ : ∃ m, k = m + 1 := ⟨k - 1, by omega⟩
    obtain ⟨b, hb, hb2⟩ := ref_has x5 v (by omega) k (by omega)
    simp only [cenotaphref01_Union.l0]
    rw [if_pos (by omega), if_pos (by omega), rd_nat, hv, hb, Option.bind_some, if_pos (hb2.mpr hm), hcast]
    exact h1 k (by omega)
   ·rw [h3, hdrop, List.mem_cons]
    constructor
    ·rintro (h | h)
     ·exact Or.inl h
     ·exact Or.inr (Or.inr h)
    ·rintro (h | h | h)
     ·exact Or.inl h
     ·subst h; exact Or.inl hm
     ·exact Or.inr h
  ·have hsm : SmallB (sink gtb v x5) := fun x hx => by
    rcases mem_sink.mp hx with e | e
    ·subst e; exact h6 _ hvm
    ·exact hs x e
   obtain ⟨r, ht, h2, h3⟩ := ih (n + 1) (sink gtb v x5) (by omega) (by omega) hsm (sinkB_sorted v x5 hm hp) hl1 (by rw [sink_length]; omega)
   have hk := ref_union_sink x6 (n : Int) r v x5.reverse [] (fun x hx => hs x (by simpa using hx)) (by simp; omega) (by rw [hcast]; exact ht)
   obtain ⟨k1, h1⟩ := hk
   rw [List.reverse_reverse, List.length_reverse] at h1
   refine ⟨r, ⟨k1 + x5.length + 2, fun k hk => ?_⟩, h2, fun x => ?_⟩
   ·obtain ⟨k, rfl⟩ : ∃ m, k = m + 1 := ⟨k - 1, by omega⟩
    obtain ⟨b, hb, hb2⟩ := ref_has x5 v (by omega) k (by omega)
    simp only [cenotaphref01_Union.l0]
    rw [if_pos (by omega), if_pos (by omega), rd_nat, hv, hb, Option.bind_some, if_neg (fun e => hm (hb2.mp e)), if_pos (by omega), Option.bind_some]
    have e : wrap64 (((x5 ++ [v]).length : Int) - 1) = (x5.length : Int) := by
     rw [List.length_append, List.length_singleton, wrap_id (by omega) (by omega)]; omega
    rw [e]
    exact h1 k (by omega)
   ·rw [h3, hdrop, mem_sink, List.mem_cons]
    constructor
    ·rintro ((h | h) | h)
     ·exact Or.inr (Or.inl h)
     ·exact Or.inl h
     ·exact Or.inr (Or.inr h)
    ·rintro (h | h | h)
     ·exact Or.inl (Or.inr h)
     ·exact Or.inl (Or.inl h)
     ·exact Or.inr h
theorem ref_union (a b : List ByteArray) (ha : SmallB a) (hb : SmallB b) (hl : (a.length + b.length) * 2 < 8796093022208) : Tells (fun k => cenotaphref01_Union.f k a b) (unionB (a ++ b)) := by
 obtain ⟨r, ⟨k0, h1⟩, h2, h3⟩ := ref_union_loop (a ++ b) (fun x hx => by rcases List.mem_append.mp hx with e | e; exact ha x e; exact hb x e) (a ++ b).length 0 [] (by omega) (by omega) (by simp [SmallB]) List.Pairwise.nil (by simp; omega) (by simp; omega)
 have e : r = unionB (a ++ b) := ssort_unique toB h2 (unionB_sorted _) fun x => by rw [h3, mem_unionB]; simp
 subst e
 refine ⟨k0, fun k hk => ?_⟩
 unfold cenotaphref01_Union.f
 simp only [Option.bind_some, List.nil_append, List.length_nil]
 rw [if_pos (by omega), if_pos (by omega)]
 exact h1 k hk
theorem kn_firsts_loop {m : List SK} (h : OkN tK m) (hm : m.length < 1000) (d : Nat) : ∀ (k n : Nat) (out : List SA), m.length - n = d → n ≤ m.length → OkV sA out → (∀ x ∈ m.drop n, ofV sA out x.f0 = 0) → out.length + d < 10000 → d < k →
  ∃ r, know_Firsts.l0 k out m (m.length : Int) (n : Int) = some r ∧ OkV sA r ∧ (∀ a, ofV sA r a = if (∃ x ∈ m.drop n, x.f0 = a) then (ofN tK (m.drop n) a).1 else ofV sA out a) ∧ r.length ≤ out.length + d := by
 induction d with
 | zero =>
  intro k n out hd hn ho hz hl hk
  obtain ⟨k, rfl⟩ : ∃ m, k = m + 1 := ⟨k - 1, by omega⟩
  simp only [know_Firsts.l0]
  rw [if_neg (by omega), List.drop_eq_nil_of_le (by omega)]
  exact ⟨out, rfl, ho, fun a => by simp, by omega⟩
 | succ d ih =>
  intro k n out hd hn ho hz hl hk
  obtain ⟨k, rfl⟩ : ∃ m, k = m + 1 := ⟨k - 1, by omega⟩
  simp only [know_Firsts.l0]
  have hdr := drop_getD m z72 n (by omega)
  have hmd : OkN tK (m.drop n) := h.sub (List.drop_sublist n m)
  rw [hdr] at hmd hz
  rw [if_pos (by omega), if_pos (by omega), if_pos (by omega), rdK, wrap_nat (by omega), hdr]
  generalize m.getD n z72 = x at hmd hz ⊢
  have hxr : rightB x.f0 = true := hmd.right x (by simp)
  have hxo : OkS x.f1.f0 x.f1.f1 := hmd.ok x (by simp)
  have hlo := hxo.lo
  have hup := hxo.up
  have hzx := hz x (by simp)
  rw [vec_set ho.toPV (by omega), Option.bind_some]
  have hsl := setV_length (s := sA) out x.f0 x.f1.f0
  have hne : ∀ y ∈ m.drop (n + 1), y.f0 ≠ x.f0 := fun y hy e => by
   have : ltB x.f0 y.f0 := hmd.ks.head hy
   rw [e] at this
   exact toB.irrefl _ this
  obtain ⟨r, er, r1, r2, r3⟩ := ih k (n + 1) (setV sA out x.f0 x.f1.f0) (by omega) (by omega) (setV_ok ho _ _) (fun y hy => by
   rw [ofV_set ho.toPV, if_neg (fun hh => hne y hy hh.1)]
   exact hz y (by simp [hy])) (by omega) (by omega)
  refine ⟨r, er, r1, fun a => ?_, by omega⟩
  have hcons : ofN tK (x :: m.drop (n + 1)) a = if x.f0 = a then (x.f1.f0, x.f1.f1) else ofN tK (m.drop (n + 1)) a := ofN_cons x _ a
  rw [r2, hcons, ofV_set ho.toPV]
  by_cases e : x.f0 = a
  ·have hno : ¬ ∃ y ∈ m.drop (n + 1), y.f0 = a := fun ⟨y, hy, e2⟩ => hne y hy (by rw [e2, e])
   have hyes : ∃ y ∈ x :: m.drop (n + 1), y.f0 = a := ⟨x, by simp, e⟩
   rw [if_neg hno, if_pos hyes, if_pos e]
   by_cases hc : 1 ≤ x.f1.f0
   ·have hcc : a = x.f0 ∧ rightB x.f0 = true ∧ 1 ≤ x.f1.f0 := ⟨e.symm, hxr, hc⟩
    rw [if_pos hcc, hzx]
    show max 0 (min x.f1.f0 1048576) = x.f1.f0
    omega
   ·have hcc : ¬ (a = x.f0 ∧ rightB x.f0 = true ∧ 1 ≤ x.f1.f0) := fun hh => hc hh.2.2
    rw [if_neg hcc, ← e, hzx]
    show (0 : Int) = x.f1.f0
    omega
  ·have hcc : ¬ (a = x.f0 ∧ rightB x.f0 = true ∧ 1 ≤ x.f1.f0) := fun hh => e hh.1.symm
   rw [if_neg hcc, if_neg e]
   by_cases hex : ∃ y ∈ m.drop (n + 1), y.f0 = a
   ·have hyes : ∃ y ∈ x :: m.drop (n + 1), y.f0 = a := by obtain ⟨y, hy, e2⟩ := hex; exact ⟨y, by simp [hy], e2⟩
    rw [if_pos hex, if_pos hyes]
   ·have hno : ¬ ∃ y ∈ x :: m.drop (n + 1), y.f0 = a := fun ⟨y, hy, e2⟩ => by
     rcases List.mem_cons.mp hy with e3 | hy
     ·rw [e3] at e2; exact e e2
     ·exact hex ⟨y, hy, e2⟩
    rw [if_neg hex, if_neg hno]
theorem kn_firsts {m : List SK} (h : OkN tK m) (hm : m.length < 1000) (k : Nat) (hk : m.length < k) : ∃ r, know_Firsts.f k m = some r ∧ OkV sA r ∧ (∀ a, ofV sA r a = (ofN tK m a).1) ∧ r.length ≤ m.length := by
 obtain ⟨r, er, r1, r2, r3⟩ := kn_firsts_loop h hm m.length k 0 [] (by omega) (by omega) OkV.nil (fun x _ => rfl) (by simp; omega) hk
 refine ⟨r, er, r1, fun a => ?_, by simpa using r3⟩
 rw [r2, List.drop_zero]
 by_cases hex : ∃ x ∈ m, x.f0 = a
 ·rw [if_pos hex]
 ·rw [if_neg hex]
  rcases ofN_cases tK m a with ⟨x, hx, e1, _, _⟩ | ⟨_, e2, _⟩
  ·exact absurd ⟨x, hx, e1⟩ hex
  ·rw [e2]; rfl
theorem kn_rows_loop {v : List SA} (h : OkV sA v) (hm : v.length < 1000) (d : Nat) : ∀ (k n : Nat) (out : List SK), v.length - n = d → n ≤ v.length → out.length + d < 10000 → d < k →
  know_From.l0 k out v (v.length : Int) (n : Int) = some (out ++ rowsV tK sA (v.drop n)) := by
 induction d with
 | zero =>
  intro k n out hd hn hl hk
  obtain ⟨k, rfl⟩ : ∃ m, k = m + 1 := ⟨k - 1, by omega⟩
  simp only [know_From.l0]
  rw [if_neg (by omega), List.drop_eq_nil_of_le (by omega)]
  simp [rowsV]
 | succ d ih =>
  intro k n out hd hn hl hk
  obtain ⟨k, rfl⟩ : ∃ m, k = m + 1 := ⟨k - 1, by omega⟩
  simp only [know_From.l0]
  have hmem : v.getD n z75 ∈ v := getD_mem (by omega) _
  have h1 : 1 ≤ (v.getD n z75).f1 := h.pos _ hmem
  have h2 : (v.getD n z75).f1 ≤ 1048576 := h.le _ hmem
  rw [if_pos (by omega), if_pos (by omega), if_pos (by omega), rdA, wrap_nat (by omega), drop_getD v z75 n (by omega)]
  generalize v.getD n z75 = x at h1 h2 ⊢
  have hf : span_First.f x.f1 = some (x.f1, []) := by
   unfold span_First.f
   rw [mx_max, mn_min, show max 0 (min x.f1 1048576) = x.f1 by omega]
  rw [hf, Option.bind_some, if_pos (by omega), ih k (n + 1) _ (by omega) (by omega) (by simp; omega) (by omega), List.append_assoc]
  rfl
theorem kn_rows {v : List SA} (h : OkV sA v) (hm : v.length < 1000) (k : Nat) (hk : v.length < k) : know_From.f k v = some (rowsV tK sA v) := by
 have := kn_rows_loop h hm v.length k 0 [] (by omega) (by omega) (by simp; omega) hk
 simpa [know_From.f] using this
theorem ref_firsts_loop4 {m : List SN} (hm : m.length < 1000) (d : Nat) : ∀ (k n : Nat) (out : List SR), m.length - n = d → n ≤ m.length → out.length + d < 10000 → d < k →
  cenotaphref04_Firsts.l0 k m out (n : Int) = some (out ++ firstsV tN sR (m.drop n)) := by
 induction d with
 | zero =>
  intro k n out hd hn hl hk
  obtain ⟨k, rfl⟩ : ∃ m, k = m + 1 := ⟨k - 1, by omega⟩
  simp only [cenotaphref04_Firsts.l0]
  rw [if_neg (by omega), List.drop_eq_nil_of_le (by omega)]
  simp [firstsV]
 | succ d ih =>
  intro k n out hd hn hl hk
  obtain ⟨k, rfl⟩ : ∃ m, k = m + 1 := ⟨k - 1, by omega⟩
  simp only [cenotaphref04_Firsts.l0]
  rw [if_pos (by omega), if_pos (by omega), rdN, wrap_nat (by omega), drop_getD m z61 n (by omega), firstsV]
  generalize m.getD n z61 = x
  by_cases hc : x.f1.f0 > 0
  ·rw [if_pos hc, if_pos (by omega), if_pos (show 0 < tN.u x from hc), ih k (n + 1) _ (by omega) (by omega) (by simp; omega) (by omega), List.append_assoc]
   rfl
  ·rw [if_neg hc, if_neg (show ¬ 0 < tN.u x from hc), ih k (n + 1) _ (by omega) (by omega) (by omega) (by omega)]
theorem ref_firsts4 {m : List SN} (hm : m.length < 1000) (k : Nat) (hk : m.length < k) : cenotaphref04_Firsts.f k m = some (firstsV tN sR m) := by
 have := ref_firsts_loop4 hm m.length k 0 [] (by omega) (by omega) (by simp; omega) hk
 simpa [cenotaphref04_Firsts.f] using this
theorem ref_rows_loop4 {v : List SR} (hm : v.length < 1000) (d : Nat) : ∀ (k n : Nat) (out : List SN), v.length - n = d → n ≤ v.length → out.length + d < 10000 → d < k →
  cenotaphref04_From.l0 k v out (n : Int) = some (out ++ rowsV tN sR (v.drop n)) := by
 induction d with
 | zero =>
  intro k n out hd hn hl hk
  obtain ⟨k, rfl⟩ : ∃ m, k = m + 1 := ⟨k - 1, by omega⟩
  simp only [cenotaphref04_From.l0]
  rw [if_neg (by omega), List.drop_eq_nil_of_le (by omega)]
  simp [rowsV]
 | succ d ih =>
  intro k n out hd hn hl hk
  obtain ⟨k, rfl⟩ : ∃ m, k = m + 1 := ⟨k - 1, by omega⟩
  simp only [cenotaphref04_From.l0]
  rw [if_pos (by omega), if_pos (by omega), rdR, wrap_nat (by omega), drop_getD v z65 n (by omega)]
  generalize v.getD n z65 = x
  rw [if_pos (by omega), ih k (n + 1) _ (by omega) (by omega) (by simp; omega) (by omega), List.append_assoc]
  rfl
theorem ref_rows4 {v : List SR} (hm : v.length < 1000) (k : Nat) (hk : v.length < k) : cenotaphref04_From.f k v = some (rowsV tN sR v) := by
 have := ref_rows_loop4 hm v.length k 0 [] (by omega) (by omega) (by simp; omega) hk
 simpa [cenotaphref04_From.f] using this
theorem hasL_iff {l : List ByteArray} (h : l.Pairwise ltB) (a : ByteArray) : hasL l a = true ↔ a ∈ l := by
 have h2 : KS ltB (fun x : ByteArray => x) l := h
 obtain ⟨p, q⟩ := find_spec (key := fun x : ByteArray => x) ByteArray.empty h2 a
 unfold hasL
 constructor
 ·intro hb
  obtain ⟨hi, e, _⟩ := p hb
  rw [← e]; exact List.getElem_mem _
 ·intro hm
  cases hb : bsB (fun i => cmpB (l.getD i ByteArray.empty) a) l.length with
  | true => rfl
  | false => exact absurd rfl ((getM_none a).mp (q hb).1 a hm)
def inL (l : List ByteArray) (a : ByteArray) : Bool := l.any fun x => decide (x = a)
theorem inL_iff {l : List ByteArray} {a : ByteArray} : inL l a = true ↔ a ∈ l := by
 unfold inL
 rw [List.any_eq_true]
 constructor
 ·rintro ⟨x, hx, e⟩
  rw [← of_decide_eq_true e]; exact hx
 ·intro h
  exact ⟨a, h, decide_eq_true rfl⟩
theorem kn_only (m : List SK) {q : Nat} (hq : LimN tK q m) (hq2 : q < 100000) (hm : m.length < 100000) {l : List ByteArray} (h : l.Pairwise ltB) (hl : l.length < 100000) : know_Only.f m l = some (m.filter fun x => inL l (tK.id x)) := by
 unfold know_Only.f konlyF
 rw [if_pos ⟨limK_ok hq (by omega) (by omega), by omega⟩]
 congr 1
 refine List.filter_congr fun x hx => ?_
 show (!(!(hasL l x.f0))) = inL l x.f0
 rw [Bool.not_not, Bool.eq_iff_iff, hasL_iff h, inL_iff]
theorem ref_only_loop4 {m : List SN} (hm : m.length < 1000) (l : List ByteArray) (hl : l.length < 100000) (d : Nat) : ∀ (k n : Nat) (out : List SN), m.length - n = d → n ≤ m.length → out.length + d < 10000 → d + l.length + 2 < k →
  cenotaphref04_Only.l0 k m l out (n : Int) = some (out ++ (m.drop n).filter fun x => inL l (tN.id x)) := by
 induction d with
 | zero =>
  intro k n out hd hn ho hk
  obtain ⟨k, rfl⟩ : ∃ m, k = m + 1 := ⟨k - 1, by omega⟩
  simp only [cenotaphref04_Only.l0]
  rw [if_neg (by omega), List.drop_eq_nil_of_le (by omega)]
  simp
 | succ d ih =>
  intro k n out hd hn ho hk
  obtain ⟨k, rfl⟩ : ∃ m, k = m + 1 := ⟨k - 1, by omega⟩
  simp only [cenotaphref04_Only.l0]
  rw [if_pos (by omega), if_pos (by omega), rdN, wrap_nat (by omega), drop_getD m z61 n (by omega)]
  generalize m.getD n z61 = x
  obtain ⟨b, eb, ib⟩ := ref_has l x.f0 (by omega) k (by omega)
  rw [eb, Option.bind_some]
  by_cases hb : b = true
  ·have hp : inL l (tN.id x) = true := inL_iff.mpr (ib.mp hb)
   rw [if_pos hb, if_pos (by omega), List.filter_cons_of_pos (by simpa using hp), ih k (n + 1) _ (by omega) (by omega) (by simp; omega) (by omega), List.append_assoc]
   rfl
  ·have hp : ¬ inL l (tN.id x) = true := fun hh => hb (ib.mpr (inL_iff.mp hh))
   rw [if_neg hb, List.filter_cons_of_neg (by simpa using hp), ih k (n + 1) _ (by omega) (by omega) (by omega) (by omega)]
theorem ref_only4 {m : List SN} (hm : m.length < 1000) (l : List ByteArray) (hl : l.length < 100000) (k : Nat) (hk : m.length + l.length + 2 < k) : cenotaphref04_Only.f k m l = some (m.filter fun x => inL l (tN.id x)) := by
 have := ref_only_loop4 hm l hl m.length k 0 [] (by omega) (by omega) (by simp; omega) hk
 simpa [cenotaphref04_Only.f] using this
theorem unionB_len (l : List ByteArray) : (unionB l).length ≤ l.length := by
 unfold unionB Lib.compactUpTo
 rw [List.length_map]
 refine Nat.le_trans (List.length_filter_le _ _) ?_
 simp [sortB]
theorem SN_eq {x y : SN} : x = y ↔ x.f0 = y.f0 ∧ x.f1.f0 = y.f1.f0 ∧ x.f1.f1 = y.f1.f1 :=
 ⟨fun e => e ▸ ⟨rfl, rfl, rfl⟩, fun e => by obtain ⟨p, u, l⟩ := x; obtain ⟨p', u', l'⟩ := y; obtain ⟨h1, h2, h3⟩ := e; dsimp only at h1 h2 h3; rw [h1, h2, h3]⟩
instance : DecidableEq SN := fun x y => if h : x.f0 = y.f0 ∧ x.f1.f0 = y.f1.f0 ∧ x.f1.f1 = y.f1.f1 then .isTrue (SN_eq.mpr h) else .isFalse (fun e => h (SN_eq.mp e))
theorem ref_same_loop4 (a b : List SN) (hl : a.length = b.length) (hs : a.length < 100000) {q : Nat} (hq : LimN tN q a) (hq2 : q < 100000) (d : Nat) : ∀ (k n : Nat), a.length - n = d → n ≤ a.length → d + q + 2 < k →
  cenotaphref04_Same.l0 k a b (n : Int) = some (decide (a.drop n = b.drop n)) := by
 induction d with
 | zero =>
  intro k n hd hn hk
  obtain ⟨k, rfl⟩ : ∃ m, k = m + 1 := ⟨k - 1, by omega⟩
  simp only [cenotaphref04_Same.l0]
  rw [if_neg (by omega), List.drop_eq_nil_of_le (by omega), List.drop_eq_nil_of_le (by omega)]; simp
 | succ d ih =>
  intro k n hd hn hk
  obtain ⟨k, rfl⟩ : ∃ m, k = m + 1 := ⟨k - 1, by omega⟩
  simp only [cenotaphref04_Same.l0]
  have hx : (a.getD n z61).f1.f1.length ≤ q := hq (a.getD n z61) (getD_mem (by omega) _)
  rw [if_pos (by omega), if_pos (by omega), if_pos (by omega), rdN, rdN, drop_getD a z61 n (by omega), drop_getD b z61 n (by omega), wrap_nat (by omega)]
  generalize a.getD n z61 = x at hx ⊢
  generalize b.getD n z61 = y
  by_cases h : x.f0 = y.f0
  ·rw [if_pos (kn_toL.mpr h), sp_same _ _ _ _ (by omega) k (by omega), Option.bind_some]
   by_cases h2 : x.f1.f0 = y.f1.f0 ∧ x.f1.f1 = y.f1.f1
   ·rw [if_pos (decide_eq_true h2), ih k (n + 1) (by omega) (by omega) (by omega)]
    congr 1
    rw [decide_eq_decide, List.cons.injEq]
    exact ⟨fun e => ⟨SN_eq.mpr ⟨h, h2⟩, e⟩, fun e => e.2⟩
   ·rw [if_neg (by rw [decide_eq_true_eq]; exact h2), decide_eq_false]
    rw [List.cons.injEq]
    exact fun e => h2 (SN_eq.mp e.1).2
  ·rw [if_neg (fun e => h (kn_toL.mp e)), decide_eq_false]
   rw [List.cons.injEq]
   exact fun e => h (SN_eq.mp e.1).1
theorem ref_same4 (a b : List SN) (hs : a.length < 100000) {q : Nat} (hq : LimN tN q a) (hq2 : q < 100000) (k : Nat) (hk : a.length + q + 2 < k) : cenotaphref04_Same.f k a b = some (decide (a = b)) := by
 unfold cenotaphref04_Same.f
 by_cases h : a.length = b.length
 ·rw [if_pos (by omega)]
  have := ref_same_loop4 a b h hs hq hq2 a.length k 0 (by omega) (by omega) hk
  simpa using this
 ·rw [if_neg (by omega), decide_eq_false (fun e => h (by rw [e]))]
theorem from_loop4 (l : List SK) (hl : l.length < 1000000) {q : Nat} (hq : LimN tK q l) (hq2 : q < 100000) (d : Nat) : ∀ (k n : Nat) (acc : List SN), l.length - n = d → n ≤ l.length → acc.length + d < 1000000 → d < k → cenotaphlaw04_From.l0 k l acc (n : Int) = some (acc ++ convN tK tN (l.drop n)) := by
 induction d with
 | zero =>
  intro k n acc hd hn ha hk
  obtain ⟨k, rfl⟩ : ∃ m, k = m + 1 := ⟨k - 1, by omega⟩
  simp only [cenotaphlaw04_From.l0]
  rw [if_neg (by omega), List.drop_eq_nil_of_le (by omega)]; simp [convN]
 | succ d ih =>
  intro k n acc hd hn ha hk
  obtain ⟨k, rfl⟩ : ∃ m, k = m + 1 := ⟨k - 1, by omega⟩
  simp only [cenotaphlaw04_From.l0]
  have hx : (l.getD n z72).f1.f1.length ≤ q := hq (l.getD n z72) (getD_mem (by omega) _)
  rw [if_pos (by omega), if_pos (by omega), rdK, sp_from _ _ (by omega), Option.bind_some, if_pos (by omega), wrap_nat (by omega), ih k (n + 1) _ (by omega) (by omega) (by simp; omega) (by omega), drop_getD l z72 n (by omega), List.append_assoc]
  rfl
theorem kn_from (l : List SK) (hl : l.length < 100000) {q : Nat} (hq : LimN tK q l) (hq2 : q < 100000) (k : Nat) (hk : l.length < k) : cenotaphlaw04_From.f k l = some (convN tK tN l) := by
 have := from_loop4 l (by omega) hq hq2 l.length k 0 [] (by omega) (by omega) (by simp; omega) hk
 simpa [cenotaphlaw04_From.f] using this
theorem from_is {x : List SK} {y : List SN} (hx : OkN tK x) (hy : OkN tN y) (h : ∀ a n, memN tK x a n ↔ memN tN y a n) (hl : x.length < 10000) {q : Nat} (hq : LimN tK q x) (hq2 : q < 10000) (k : Nat) (hk : 30000 < k) :
  cenotaphlaw04_From.f k x = some y ∧ cenotaphref04_Same.f k y y = some true := by
 have e := convN_is (t2 := tN) hx hy h
 have hL : LimN tN q (convN tK tN x) := hq.conv
 rw [e] at hL
 have hlen := convN_length (t := tK) (t2 := tN) x
 rw [e] at hlen
 refine ⟨?_, ?_⟩
 ·rw [kn_from x (by omega) hq (by omega) k (by omega), e]
 ·rw [ref_same4 y y (by omega) hL (by omega) k (by omega), decide_eq_true rfl]
def rightNB {ρ : Type} (t : RoN ρ) : Option ByteArray → List ρ → Bool
 | _, [] => true
 | p, x :: l => rightB (t.id x) && rightS (t.u x) (t.e x) && decide (1 ≤ t.u x + ((t.e x).length : Int)) && afterB p (t.id x) && rightNB t (some (t.id x)) l
theorem rightNB_ok {ρ : Type} {t : RoN ρ} : ∀ (l : List ρ) (p : Option ByteArray), OkN t l → LimN t 4096 l → (∀ a, p = some a → ∀ x ∈ l, ltB a (t.id x)) → rightNB t p l = true
 | [], _, _, _, _ => rfl
 | x :: l, p, h, hq, hp => by
  have h2 : afterB p (t.id x) = true := by
   cases p with
   | none => rfl
   | some a => exact decide_eq_true (hp a rfl x (by simp))
  rw [rightNB, h.right x (by simp), rightS_ok (h.ok x (by simp)) (hq x (by simp)), h2, decide_eq_true ((okS_some (h.ok x (by simp))).mp (h.ne x (by simp))), rightNB_ok l (some (t.id x)) h.tail (fun y hy => hq y (by simp [hy])) fun a ha y hy => by cases ha; exact h.ks.head hy]
  rfl
theorem rightS_bound {u : Int} {e : List Int} (h : rightS u e = true) : 0 ≤ u ∧ u ≤ 1048576 ∧ e.length ≤ 4096 := by
 unfold rightS at h
 simp only [Bool.and_eq_true, decide_eq_true_eq] at h
 exact ⟨h.1.1.1, h.1.1.2, h.1.2⟩
def prevK (l : List SK) : Nat → Option ByteArray
 | 0 => none
 | n + 1 => some (l.getD n z72).f0
theorem kn_right_loop (l : List SK) (hl : l.length < 100000) {q : Nat} (hq : LimN tK q l) (hq2 : q < 100000) (d : Nat) : ∀ (k n : Nat), l.length - n = d → n ≤ l.length → d + q + 10 < k →
  know_Right.l0 k l l (l.length : Int) (n : Int) = some (rightNB tK (prevK l n) (l.drop n)) := by
 induction d with
 | zero =>
  intro k n hd hn hk
  obtain ⟨k, rfl⟩ : ∃ m, k = m + 1 := ⟨k - 1, by omega⟩
  simp only [know_Right.l0]
  rw [if_neg (by omega), List.drop_eq_nil_of_le (by omega)]; rfl
 | succ d ih =>
  intro k n hd hn hk
  obtain ⟨k, rfl⟩ : ∃ m, k = m + 1 := ⟨k - 1, by omega⟩
  have hx : (l.getD n z72).f1.f1.length ≤ q := hq (l.getD n z72) (getD_mem (by omega) _)
  have IH := ih k (n + 1) (by omega) (by omega) (by omega)
  have hpn : prevK l (n + 1) = some (l.getD n z72).f0 := rfl
  rw [hpn] at IH
  simp only [know_Right.l0]
  rw [if_pos (by omega), if_pos (by omega), if_pos (by omega), rdK, drop_getD l z72 n (by omega), wrap_nat (by omega)]
  have hprev : prevK l n = if n = 0 then none else some (l.getD (n - 1) z72).f0 := by cases n <;> rfl
  generalize l.getD n z72 = x at hx IH ⊢
  rw [rightNB]
  have h1 : rightB (tK.id x) = rightB x.f0 := rfl
  have h2 : rightS (tK.u x) (tK.e x) = rightS x.f1.f0 x.f1.f1 := rfl
  have h3 : decide (1 ≤ tK.u x + ((tK.e x).length : Int)) = decide (1 ≤ x.f1.f0 + (x.f1.f1.length : Int)) := rfl
  have h4 : afterB (prevK l n) (tK.id x) = afterB (prevK l n) x.f0 := rfl
  have h5 : some (tK.id x) = some x.f0 := rfl
  have hid : id_Right.f x.f0 = some (rightB x.f0) := rfl
  rw [h1, h2, h3, h4, h5, hid, Option.bind_some]
  by_cases hr : rightB x.f0 = true
  rotate_left
  ·rw [if_neg hr]; have : rightB x.f0 = false := by simpa using hr
   rw [this]; rfl
  rw [if_pos hr, hr, span_right _ _ (by omega) k (by omega), Option.bind_some]
  by_cases hv : rightS x.f1.f0 x.f1.f1 = true
  rotate_left
  ·rw [if_neg hv]; have : rightS x.f1.f0 x.f1.f1 = false := by simpa using hv
   rw [this]; rfl
  obtain ⟨b1, b2, b3⟩ := rightS_bound hv
  have hcnt : span_Count.f x.f1.f0 x.f1.f1 = some (x.f1.f0 + (x.f1.f1.length : Int)) := by
   unfold span_Count.f
   rw [wrap_id (by omega) (by omega)]
  rw [if_pos hv, hv, hcnt, Option.bind_some]
  by_cases hc : x.f1.f0 + (x.f1.f1.length : Int) = 0
  ·rw [if_pos hc, decide_eq_false (by omega)]; rfl
  rw [if_neg hc, decide_eq_true (show 1 ≤ x.f1.f0 + (x.f1.f1.length : Int) by omega)]
  by_cases hn0 : n = 0
  ·subst hn0
   rw [if_neg (by simp)]
   rw [hprev, if_pos rfl]
   rw [IH]
   simp [afterB]
  ·have hw : wrap64 ((n : Int) - 1) = ((n - 1 : Nat) : Int) := by rw [wrap_id (by omega) (by omega)]; omega
   have hor : ∀ y : SK, know_order.f y.f0 y.f1.f0 y.f1.f1 x.f0 x.f1.f0 x.f1.f1 = some (Lib.compareBytes y.f0.data.toList x.f0.data.toList) := fun _ => rfl
   rw [if_pos (by omega), hw, if_pos (by omega), if_pos (by omega), rdK, hor, Option.bind_some, hprev, if_neg hn0]
   have hb : afterB (some (l.getD (n - 1) z72).f0) x.f0 = decide (Lib.compareBytes (l.getD (n - 1) z72).f0.data.toList x.f0.data.toList < 0) := rfl
   rw [hb]
   by_cases hcc : Lib.compareBytes (l.getD (n - 1) z72).f0.data.toList x.f0.data.toList ≥ 0
   ·rw [if_pos hcc, decide_eq_false (by omega)]; rfl
   ·rw [if_neg hcc, decide_eq_true (by omega), IH]; simp
theorem kn_right (l : List SK) (hl : l.length < 100000) {q : Nat} (hq : LimN tK q l) (hq2 : q < 100000) (k : Nat) (hk : l.length + q + 10 < k) : know_Right.f k l = some (rightNB tK none l) :=
 kn_right_loop l hl hq hq2 l.length k 0 (by omega) (by omega) (by omega)
theorem kn_right_ok {l : List SK} (h : OkN tK l) (hl : l.length < 100000) {q : Nat} (hq : LimN tK q l) (hq2 : q ≤ 4096) (k : Nat) (hk : l.length + q + 10 < k) : know_Right.f k l = some true := by
 rw [kn_right l hl hq (by omega) k hk, rightNB_ok l none h (hq.imp hq2) (fun a ha => by cases ha)]
theorem kn_count_loop {m : List SK} (h : OkN tK m) {q : Nat} (hq : LimN tK q m) (hq2 : q < 100000) (hm : m.length < 1000) (d : Nat) : ∀ (k n : Nat) (c : Int), m.length - n = d → n ≤ m.length → 0 ≤ c → c + (1048576 + (q : Int)) * d < 1000000000000 → d < k →
  know_Count.l0 k c m (m.length : Int) (n : Int) = some (c + cntN tK (m.drop n)) := by
 induction d with
 | zero =>
  intro k n c hd hn hc hb hk
  obtain ⟨k, rfl⟩ : ∃ m, k = m + 1 := ⟨k - 1, by omega⟩
  simp only [know_Count.l0]
  rw [if_neg (by omega), List.drop_eq_nil_of_le (by omega)]
  simp [cntN]
 | succ d ih =>
  intro k n c hd hn hc hb hk
  obtain ⟨k, rfl⟩ : ∃ m, k = m + 1 := ⟨k - 1, by omega⟩
  have hmem : m.getD n z72 ∈ m := getD_mem (by omega) _
  have hx : (m.getD n z72).f1.f1.length ≤ q := hq _ hmem
  have hok : OkS (m.getD n z72).f1.f0 (m.getD n z72).f1.f1 := h.ok _ hmem
  have h1 := hok.lo
  have h2 := hok.up
  have e : (1048576 + (q : Int)) * ((d + 1 : Nat) : Int) = (1048576 + (q : Int)) * d + (1048576 + (q : Int)) := by
   rw [Int.natCast_add, Int.mul_add]; simp
  have hp : 0 ≤ (1048576 + (q : Int)) * d := Int.mul_nonneg (by omega) (by omega)
  rw [e] at hb
  simp only [know_Count.l0]
  rw [if_pos (by omega), if_pos (by omega), if_pos (by omega), rdK, span_count _ _ hok (by omega), Option.bind_some, wrap_nat (by omega), wrap_id (by omega) (by omega), ih k (n + 1) _ (by omega) (by omega) (by omega) (by omega) (by omega), drop_getD m z72 n (by omega), cntN]
  congr 1
  show _ = c + ((m.getD n z72).f1.f0 + ((m.getD n z72).f1.f1.length : Int) + _)
  omega
theorem kn_count {m : List SK} (h : OkN tK m) {q : Nat} (hq : LimN tK q m) (hq2 : q ≤ 4096) (hm : m.length < 1000) (k : Nat) (hk : m.length < k) : know_Count.f k m = some (cntN tK m) := by
 have hb : (1048576 + (q : Int)) * (m.length : Int) < 1000000000000 := by
  have : (1048576 + (q : Int)) * (m.length : Int) ≤ 1052672 * (m.length : Int) := Int.mul_le_mul_of_nonneg_right (by omega) (by omega)
  omega
 have := kn_count_loop h hq (by omega) hm m.length k 0 0 (by omega) (by omega) (by omega) (by omega) hk
 simpa [know_Count.f] using this
theorem kn_ext_loop {m : List SK} {q : Nat} (hq : LimN tK q m) (hq2 : q < 100000) (hm : m.length < 1000) (d : Nat) : ∀ (k n : Nat) (c : Int), m.length - n = d → n ≤ m.length → 0 ≤ c → c + 100000 * d < 1000000000000 → d < k →
  know_Extras.l0 k c m (m.length : Int) (n : Int) = some (c + extN tK (m.drop n)) := by
 induction d with
 | zero =>
  intro k n c hd hn hc hb hk
  obtain ⟨k, rfl⟩ : ∃ m, k = m + 1 := ⟨k - 1, by omega⟩
  simp only [know_Extras.l0]
  rw [if_neg (by omega), List.drop_eq_nil_of_le (by omega)]
  simp [extN]
 | succ d ih =>
  intro k n c hd hn hc hb hk
  obtain ⟨k, rfl⟩ : ∃ m, k = m + 1 := ⟨k - 1, by omega⟩
  have hmem : m.getD n z72 ∈ m := getD_mem (by omega) _
  have hx : (m.getD n z72).f1.f1.length ≤ q := hq _ hmem
  simp only [know_Extras.l0]
  rw [if_pos (by omega), if_pos (by omega), if_pos (by omega), rdK, wrap_nat (by omega), wrap_id (by omega) (by omega), ih k (n + 1) _ (by omega) (by omega) (by omega) (by omega) (by omega), drop_getD m z72 n (by omega), extN]
  congr 1
  show _ = c + (((m.getD n z72).f1.f1.length : Int) + _)
  omega
theorem kn_ext {m : List SK} {q : Nat} (hq : LimN tK q m) (hq2 : q ≤ 4096) (hm : m.length < 1000) (k : Nat) (hk : m.length < k) : know_Extras.f k m = some (extN tK m) := by
 have := kn_ext_loop hq (by omega) hm m.length k 0 0 (by omega) (by omega) (by omega) (by omega) hk
 simpa [know_Extras.f] using this
theorem SK_eq {x y : SK} : x = y ↔ x.f0 = y.f0 ∧ x.f1.f0 = y.f1.f0 ∧ x.f1.f1 = y.f1.f1 :=
 ⟨fun e => e ▸ ⟨rfl, rfl, rfl⟩, fun e => by obtain ⟨p, u, l⟩ := x; obtain ⟨p', u', l'⟩ := y; obtain ⟨h1, h2, h3⟩ := e; dsimp only at h1 h2 h3; rw [h1, h2, h3]⟩
instance : DecidableEq SK := fun x y => if h : x.f0 = y.f0 ∧ x.f1.f0 = y.f1.f0 ∧ x.f1.f1 = y.f1.f1 then .isTrue (SK_eq.mpr h) else .isFalse (fun e => h (SK_eq.mp e))
theorem sameQ_is (x y : SK) {q : Nat} (hx : x.f1.f1.length ≤ q) (hq : q < 100000) (k : Nat) (hk : q < k) : sameQ k x y = some (decide (x = y)) := by
 unfold sameQ
 by_cases h : x.f0 = y.f0
 ·rw [if_pos h, span_same _ _ _ _ (by omega) k (by omega)]
  congr 1
  rw [decide_eq_decide, SK_eq]
  exact ⟨fun e => ⟨h, e⟩, fun e => e.2⟩
 ·rw [if_neg h, decide_eq_false (fun e => h (by rw [e]))]
theorem kn_same (a b : List SK) {q : Nat} (ha : LimN tK q a) (hq : q < 100000) (k : Nat) (hk : q < k) : know_Same.f k a b = some (decide (a = b)) := by
 have hz : ∀ i, i < a.length → sameQ k (a.getD i z72) (b.getD i z72) = some (decide (a.getD i z72 = b.getD i z72)) := fun i hi => sameQ_is _ _ (ha _ (getD_mem hi _)) hq k hk
 unfold know_Same.f
 rw [if_pos (show sameAll k a b from fun i hi => by rw [hz i hi]; rfl)]
 congr 1
 unfold sameB
 by_cases hl : a.length = b.length
 ·rw [if_pos hl, Bool.eq_iff_iff, List.all_eq_true, decide_eq_true_eq]
  constructor
  ·intro h
   refine List.ext_getElem hl fun i h1 h2 => ?_
   have := h i (List.mem_range.mpr h1)
   rw [hz i h1, Option.getD_some, decide_eq_true_eq, getD_eq h1, getD_eq h2] at this
   exact this
  ·intro e i hi
   rw [hz i (List.mem_range.mp hi), Option.getD_some, e, decide_eq_true_eq]
 ·rw [if_neg hl, decide_eq_false (fun e => hl (by rw [e]))]
theorem withinQ_is {b : List SK} (h : OkN tK b) {q : Nat} (hb : LimN tK q b) (hq : q < 100000) (hl : b.length < 100000) {x : SK} (hx : OkS x.f1.f0 x.f1.f1) (hxl : x.f1.f1.length ≤ q) (k : Nat) (hk : 2 * q < k) :
  ∃ w, withinQ k b x = some w ∧ (w = true ↔ ∀ n, memS x.f1.f0 x.f1.f1 n → memN tK b x.f0 n) := by
 have hof := hb.of x.f0
 unfold withinQ
 rw [kn_of h hb hq hl, Option.bind_some]
 exact span_within _ _ _ _ hx (h.ofN x.f0) (by omega) k (by omega)
theorem kn_within {a b : List SK} (ha : OkN tK a) (h : OkN tK b) {q : Nat} (hqa : LimN tK q a) (hb : LimN tK q b) (hq : q < 100000) (hl : b.length < 100000) (k : Nat) (hk : 2 * q < k) :
  ∃ w, know_Within.f k a b = some w ∧ (w = true ↔ subN tK a b) := by
 have hz : ∀ x ∈ a, ∃ w, withinQ k b x = some w ∧ (w = true ↔ ∀ n, memS x.f1.f0 x.f1.f1 n → memN tK b x.f0 n) := fun x hx => withinQ_is h hb hq hl (ha.ok x hx) (hqa x hx) k hk
 unfold know_Within.f
 rw [if_pos (show withinAll k a b from fun x hx => by obtain ⟨w, e, _⟩ := hz x hx; rw [e]; rfl)]
 refine ⟨_, rfl, ?_⟩
 rw [Bool.not_eq_true', subN_rows ha, List.any_eq_false]
 refine forall_congr' fun x => forall_congr' fun hx => ?_
 obtain ⟨w, e, hw⟩ := hz x hx
 rw [e, Option.getD_some]
 refine Iff.trans ?_ hw
 cases w <;> simp
abbrev rootB : ByteArray := ⟨#[48]⟩
theorem root_right : rightB rootB = true := by rw [rightB_eq]; rfl
def oneK (u : Int) (e : List Int) : List SK := [⟨rootB, ⟨u, e⟩⟩]
theorem oneK_ok {u : Int} {e : List Int} (h : OkS u e) (hn : ∃ n, memS u e n) : OkN tK (oneK u e) :=
 ⟨List.pairwise_singleton _ _, fun x hx => by rw [List.mem_singleton.mp hx]; exact h, fun x hx => by rw [List.mem_singleton.mp hx]; exact hn, fun x hx => by rw [List.mem_singleton.mp hx]; exact root_right⟩
theorem oneK_mem {u : Int} {e : List Int} (h : OkS u e) (hn : ∃ n, memS u e n) (a : ByteArray) (n : Int) : memN tK (oneK u e) a n ↔ a = rootB ∧ memS u e n := by
 unfold oneK
 rw [memN_cons (oneK_ok h hn)]
 exact ⟨fun hh => hh.elim id (fun h => absurd h (memN_nil a n)), Or.inl⟩
theorem oneK_lim {u : Int} {e : List Int} (h : e.length ≤ 1) : LimN tK 1 (oneK u e) := fun x hx => by rw [List.mem_singleton.mp hx]; exact h
theorem told_sum (k : Nat) (hk : 30 ≤ k) : cenotaphlaw04_told.f k = some true := by
 have s1 : OkS 1 [] := OkS.nil (by decide) (by decide)
 have s2 : OkS 1 [3] := ⟨by decide, by decide, by decide, by decide, by decide⟩
 have s3 : OkS 3 [] := OkS.nil (by decide) (by decide)
 have n1 : ∃ n, memS 1 [] n := ⟨1, Or.inl ⟨by decide, by decide⟩⟩
 have n2 : ∃ n, memS 1 [3] n := ⟨1, Or.inl ⟨by decide, by decide⟩⟩
 have n3 : ∃ n, memS 3 [] n := ⟨1, Or.inl ⟨by decide, by decide⟩⟩
 have l1 : LimN tK 1 (oneK 1 []) := oneK_lim (by decide)
 have l2 : LimN tK 1 (oneK 1 [3]) := oneK_lim (by decide)
 have l3 : LimN tK 1 (oneK 3 []) := oneK_lim (by decide)
 obtain ⟨a, ea, ia, la⟩ := kn_add OkN.nil (LimN.nil (t := tK) (q := 1)) (by decide) (by decide) rootB 1 k (by omega)
 have ha : a = oneK 1 [] := OkN.ext ia.ok (oneK_ok s1 n1) fun i n => by
  rw [ia.mem, oneK_mem s1 n1]
  have := memN_nil (t := tK) i n
  unfold oneN memS
  constructor
  ·rintro (hh | ⟨hh, _, h2, _⟩)
   ·exact absurd hh this
   ·exact ⟨hh, Or.inl (by omega)⟩
  ·rintro ⟨hh, h2 | h2⟩
   ·exact Or.inr ⟨hh, root_right, by omega, by omega, by omega⟩
   ·cases h2
 subst ha
 obtain ⟨b, eb, ib, lb⟩ := kn_add (oneK_ok s1 n1) l1 (by decide) (by decide) rootB 3 k (by omega)
 have hb : b = oneK 1 [3] := OkN.ext ib.ok (oneK_ok s2 n2) fun i n => by
  rw [ib.mem, oneK_mem s1 n1, oneK_mem s2 n2]
  unfold oneN memS
  simp only [List.mem_singleton, List.not_mem_nil, or_false]
  constructor
  ·rintro (⟨hh, h2⟩ | ⟨hh, _, h2, _⟩)
   ·exact ⟨hh, Or.inl h2⟩
   ·exact ⟨hh, Or.inr h2⟩
  ·rintro ⟨hh, h2 | h2⟩
   ·exact Or.inl ⟨hh, h2⟩
   ·exact Or.inr ⟨hh, root_right, h2, by omega, by omega⟩
 subst hb
 obtain ⟨c, ec, ic, lc⟩ := kn_add (oneK_ok s2 n2) l2 (by decide) (by decide) rootB 2 k (by omega)
 have hc : c = oneK 3 [] := OkN.ext ic.ok (oneK_ok s3 n3) fun i n => by
  rw [ic.mem, oneK_mem s2 n2, oneK_mem s3 n3]
  unfold oneN memS
  simp only [List.mem_singleton, List.not_mem_nil, or_false]
  constructor
  ·rintro (⟨hh, h2 | h2⟩ | ⟨hh, _, h2, _⟩)
   ·exact ⟨hh, by omega⟩
   ·exact ⟨hh, by omega⟩
   ·exact ⟨hh, by omega⟩
  ·rintro ⟨hh, h2⟩
   by_cases h3 : n = 2
   ·exact Or.inr ⟨hh, root_right, h3, by omega, by omega⟩
   ·exact Or.inl ⟨hh, by omega⟩
 subst hc
 have ef : know_Firsts.f k (oneK 3 []) = some [⟨rootB, 3⟩] := at_rounds (fun k => know_Firsts.mono _ k) (show 3 ≤ k by omega) (by
  simp only [know_Firsts.f, know_Firsts.l0, wrap64]
  rfl)
 obtain ⟨w1, e1, i1⟩ := kn_within (oneK_ok s2 n2) (oneK_ok s3 n3) l2 l3 (by decide) (by decide) k (by omega)
 obtain ⟨w2, e2, i2⟩ := kn_within (oneK_ok s3 n3) (oneK_ok s2 n2) l3 l2 (by decide) (by decide) k (by omega)
 have hw1 : w1 = true := i1.mpr fun i n => by
  rw [oneK_mem s2 n2, oneK_mem s3 n3]
  unfold memS
  simp only [List.mem_singleton, List.not_mem_nil, or_false]
  rintro ⟨hh, h2⟩
  exact ⟨hh, by omega⟩
 have hw2 : w2 = false := by
  cases hw : w2 with
  | false => rfl
  | true =>
   have := (i2.mp hw) rootB 2 ((oneK_mem s3 n3 _ _).mpr ⟨rfl, Or.inl ⟨by decide, by decide⟩⟩)
   rw [oneK_mem s2 n2] at this
   have h2 := this.2
   unfold memS at h2
   simp only [List.mem_singleton] at h2
   omega
 subst hw1; subst hw2
 unfold cenotaphlaw04_told.f
 rw [ea, Option.bind_some, eb, Option.bind_some, ec, Option.bind_some, ef, Option.bind_some, if_pos]
 refine ⟨⟨?_, ?_, ?_, ?_⟩, ⟨?_, e1, e2⟩, ⟨rfl, rfl⟩, ?_⟩
 ·rw [kn_ext l2 (by decide) (by decide) k (by simp [oneK]; omega)]; rfl
 ·rw [kn_count (oneK_ok s2 n2) l2 (by decide) (by decide) k (by simp [oneK]; omega)]; rfl
 ·rw [kn_has (oneK_ok s2 n2) l2 (by decide) (by decide) _ _ k (by omega), decide_eq_true ((oneK_mem s2 n2 _ _).mpr ⟨rfl, Or.inr (by simp)⟩)]
 ·rw [kn_has (oneK_ok s2 n2) l2 (by decide) (by decide) _ _ k (by omega), decide_eq_false]
  rw [oneK_mem s2 n2]
  rintro ⟨_, h2⟩
  unfold memS at h2
  simp only [List.mem_singleton] at h2
  omega
 ·rw [kn_ext l3 (by decide) (by decide) k (by simp [oneK]; omega)]; rfl
 ·exact kn_right_ok (oneK_ok s2 n2) (by decide) l2 (by decide) k (by simp [oneK]; omega)
theorem to_loop3 (l : List SR) (hl : l.length < 1000000) (d : Nat) : ∀ (k n : Nat) (acc : List SA), l.length - n = d → n ≤ l.length → acc.length + d < 1000000 → d < k → cenotaphlaw03_To.l0 k l acc (n : Int) = some (acc ++ convV sR sA (l.drop n)) := by
 induction d with
 | zero =>
  intro k n acc hd hn ha hk
  obtain ⟨k, rfl⟩ : ∃ m, k = m + 1 := ⟨k - 1, by omega⟩
  simp only [cenotaphlaw03_To.l0]
  rw [if_neg (by omega), List.drop_eq_nil_of_le (by omega)]; simp [convV]
 | succ d ih =>
  intro k n acc hd hn ha hk
  obtain ⟨k, rfl⟩ : ∃ m, k = m + 1 := ⟨k - 1, by omega⟩
  simp only [cenotaphlaw03_To.l0]
  rw [if_pos (by omega), if_pos (by omega), if_pos (by omega), rdR, wrap_nat (by omega), ih k (n + 1) _ (by omega) (by omega) (by simp; omega) (by omega), drop_getD l z65 n (by omega), List.append_assoc]
  rfl
theorem to3 (l : List SR) (hl : l.length < 100000) (k : Nat) (hk : l.length < k) : cenotaphlaw03_To.f k l = some (convV sR sA l) := by
 have := to_loop3 l (by omega) l.length k 0 [] (by omega) (by omega) (by simp; omega) hk
 simpa [cenotaphlaw03_To.f] using this
theorem from_loop3 (l : List SA) (hl : l.length < 1000000) (d : Nat) : ∀ (k n : Nat) (acc : List SR), l.length - n = d → n ≤ l.length → acc.length + d < 1000000 → d < k → cenotaphlaw03_From.l0 k l acc (n : Int) = some (acc ++ convV sA sR (l.drop n)) := by
 induction d with
 | zero =>
  intro k n acc hd hn ha hk
  obtain ⟨k, rfl⟩ : ∃ m, k = m + 1 := ⟨k - 1, by omega⟩
  simp only [cenotaphlaw03_From.l0]
  rw [if_neg (by omega), List.drop_eq_nil_of_le (by omega)]; simp [convV]
 | succ d ih =>
  intro k n acc hd hn ha hk
  obtain ⟨k, rfl⟩ : ∃ m, k = m + 1 := ⟨k - 1, by omega⟩
  simp only [cenotaphlaw03_From.l0]
  rw [if_pos (by omega), if_pos (by omega), if_pos (by omega), rdA, wrap_nat (by omega), ih k (n + 1) _ (by omega) (by omega) (by simp; omega) (by omega), drop_getD l z75 n (by omega), List.append_assoc]
  rfl
theorem from3 (l : List SA) (hl : l.length < 100000) (k : Nat) (hk : l.length < k) : cenotaphlaw03_From.f k l = some (convV sA sR l) := by
 have := from_loop3 l (by omega) l.length k 0 [] (by omega) (by omega) (by simp; omega) hk
 simpa [cenotaphlaw03_From.f] using this
theorem same_as {x : List SA} {v : List SR} (hx : PV sA x) (hv : PV sR v) (h : ∀ i, ofV sA x i = ofV sR v i) : convV sA sR x = v :=
 PV.ext (convV_PV sA sR hx) hv fun i => by rw [ofV_conv]; exact h i
theorem KnowFirsts : cenotaphlaw04_KnowFirsts.Pure := by
 intro l0 l1 l2 hl0 hw0 hl1 hw1 hl2 hw2
 have hM : maxLen = 9223372036854775807 := rfl
 have sx : SmallB (l2.take (min l2.length 12)) := fun z hz => by have := hw2 z (List.mem_of_mem_take hz); omega
 have lx : (l2.take (min l2.length 12)).length ≤ 12 := by rw [List.length_take]; omega
 obtain ⟨k0, hk0⟩ := ref_union (l2.take (min l2.length 12)) [] sx (by simp [SmallB]) (by simp; omega)
 refine ⟨k0 + 50000, ?_⟩
 have eL : cenotaphref01_Union.f (k0 + 50000) (l2.take (min l2.length 12)) [] = some (unionB (l2.take (min l2.length 12) ++ [])) := hk0 (k0 + 50000) (by omega)
 generalize hkk : k0 + 50000 = k at eL ⊢
 have hk : 50000 ≤ k := by omega
 clear hkk hk0
 rw [List.append_nil] at eL
 have hLs := unionB_sorted (l2.take (min l2.length 12))
 have hLl := unionB_len (l2.take (min l2.length 12))
 generalize unionB (l2.take (min l2.length 12)) = L at eL hLs hLl
 obtain ⟨m, em, okm, hm1, hm2, hm3, et, okx, hx1, hx2, hx3⟩ := fixed4 l0 (fun x hx => ⟨(hw0 x hx).2.1, by have := (hw0 x hx).2.2.1; omega, (hw0 x hx).2.2.2⟩) k (by omega)
 obtain ⟨v, ev, okv, hvl⟩ := ref_fix3 l1 k (by omega)
 have okc := convV_ok sR sA okv
 have hcl := convV_length sR sA v
 have hco := fun i => ofV_conv sR sA i v
 have hat : ∀ a n, memN tK (convN tN tK m) a n ↔ memN tN m a n := fun a n => memN_conv m a n
 have hofx : ∀ a, ofN tK (convN tN tK m) a = ofN tN m a := fun a => ofN_conv a m
 unfold cenotaphlaw04_KnowFirsts.f
 rw [em, Option.bind_some, ev, Option.bind_some, eL, Option.bind_some, et, Option.bind_some]
 have hto3 := to3 v (by omega) k (by omega)
 generalize convV sR sA v = c at okc hcl hco hto3 ⊢
 generalize convN tN tK m = x at okx hx1 hx2 hx3 hat hofx ⊢
 obtain ⟨f, ef, okf, hf, hfl⟩ := kn_firsts okx (by omega) k (by omega)
 have okb := rowsV_ok (t := tK) okf
 have hbl := rowsV_length (t := tK) (s := sA) f
 have hbf : ∀ a, (ofN tK (rowsV tK sA f) a).1 = ofV sA f a := fun a => by rw [ofN_rows]
 have hblim := rowsV_lim (t := tK) (s := sA) 30 f
 have hiff := rows_firsts okx okf hf
 have hsub : subN tK (rowsV tK sA f) x := rows_sub hf
 have hb := kn_rows okf (by omega) k (by omega)
 generalize rowsV tK sA f = b at okb hbl hbf hblim hiff hsub hb
 obtain ⟨g, eg, okg, hg, hgl⟩ := kn_firsts okb (by omega) k (by omega)
 have hgf : g = f := PV.ext okg.toPV okf.toPV fun a => by rw [hg, hbf]
 subst hgf
 have hfr : convV sA sR g = firstsV tN sR m := same_as okf.toPV (firstsV_ok okm).toPV fun a => by rw [hf, hofx, ofV_firsts a okm]
 have hfrl := firstsV_length (t := tN) (s := sR) m
 obtain ⟨f2, s2⟩ := from_is (rowsV_ok (t := tK) okc) (rowsV_ok (t := tN) okv) (fun a n => by rw [memN_rows, memN_rows, hco]) (by rw [rowsV_length]; omega) (rowsV_lim 30 c) (by omega) k (by omega)
 have hol : (x.filter fun y => inL L (tK.id y)).length ≤ x.length := List.length_filter_le _ _
 obtain ⟨f3, s3⟩ := from_is (okx.filter fun y => inL L (tK.id y)) (okm.filter fun y => inL L (tN.id y)) (fun a n => by rw [memN_filter, memN_filter, hat]) (by omega) (hx2.filter _) (by omega) k (by omega)
 obtain ⟨w, ew, iw⟩ := kn_within okb okx hblim hx2 (by omega) (by omega) k (by omega)
 have hw : w = true := iw.mpr hsub
 subst hw
 have hfr3 := from3 g (by omega) k (by omega)
 have hdec : decide (b = x) = (extN tK x == 0) := by
  rw [Bool.eq_iff_iff, decide_eq_true_eq, beq_iff_eq]; exact hiff
 rw [ef, Option.bind_some, hb, Option.bind_some, hfr3, Option.bind_some, ref_firsts4 (by omega) k (by omega), Option.bind_some, hto3, Option.bind_some, kn_rows okc (by omega) k (by omega), Option.bind_some, f2, Option.bind_some, ref_rows4 (by omega) k (by omega), Option.bind_some,
  to_ok L (by omega) k (by omega), Option.bind_some, kn_only x hx2 (by omega) (by omega) hLs (by omega), Option.bind_some, f3, Option.bind_some, ref_only4 (by omega) L (by omega) k (by omega), Option.bind_some,
  kn_same b x hblim (by omega) k (by omega), Option.bind_some, kn_ext hx2 (by omega) (by omega) k (by omega), Option.bind_some, eg, Option.bind_some, hfr3, Option.bind_some, hfr]
 exact if_pos ⟨told_sum k (by omega), by rw [ref_same3 _ _ (by omega) k (by omega)]; simp, s2, s3, ew, by rw [ref_same3 _ _ (by omega) k (by omega)]; simp, hdec⟩
end Go.Proofs.YtkfehkaiifjkmaaGreat.Pure
