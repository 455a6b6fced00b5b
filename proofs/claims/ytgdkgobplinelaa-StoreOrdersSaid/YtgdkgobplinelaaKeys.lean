import Derived.Test.YtgdkgobplinelaaOrdB
/- Rows that rise by their keys: what tells two of them apart, what is under a key, what there is with one more and without one. No program in sight. -/
namespace Go.Proofs.Ytgdkgobplinelaa
set_option linter.unusedVariables false
section
variable {α κ : Type} {lt : κ → κ → Prop} {key : α → κ}
/-- Rising by their keys. -/
def KS (lt : κ → κ → Prop) (key : α → κ) (l : List α) : Prop := l.Pairwise (fun x y => lt (key x) (key y))
theorem KS.nil : KS lt key [] := List.Pairwise.nil
theorem KS.tail {x : α} {l : List α} (h : KS lt key (x :: l)) : KS lt key l := (List.pairwise_cons.mp h).2
theorem KS.head {x : α} {l : List α} (h : KS lt key (x :: l)) {y : α} (hy : y ∈ l) : lt (key x) (key y) := (List.pairwise_cons.mp h).1 y hy
/-- One key, one element. -/
theorem KS.inj (ht : TO lt) : ∀ {l : List α}, KS lt key l → ∀ {x y : α}, x ∈ l → y ∈ l → key x = key y → x = y
  | [], _, x, y, hx, _, _ => by cases hx
  | z :: l, h, x, y, hx, hy, e => by
    rcases List.mem_cons.mp hx with ex | hx
    · rcases List.mem_cons.mp hy with ey | hy
      · rw [ex, ey]
      · have h1 := h.head hy
        rw [← ex, e] at h1
        exact absurd h1 (ht.irrefl _)
    · rcases List.mem_cons.mp hy with ey | hy
      · have h1 := h.head hx
        rw [← ey, e] at h1
        exact absurd h1 (ht.irrefl _)
      · exact KS.inj ht h.tail hx hy e
/-- Two such rows with the same elements are one. -/
theorem KS.unique (ht : TO lt) : ∀ {a b : List α}, KS lt key a → KS lt key b → (∀ x, x ∈ a ↔ x ∈ b) → a = b
  | [], [], _, _, _ => rfl
  | [], y :: b, _, _, he => by have := (he y).mpr (by simp); simp at this
  | x :: a, [], _, _, he => by have := (he x).mp (by simp); simp at this
  | x :: a, y :: b, ha, hb, he => by
    have hxy : x = y := by
      have h1 := (he x).mp (by simp)
      have h2 := (he y).mpr (by simp)
      rw [List.mem_cons] at h1 h2
      rcases h1 with h1 | h1
      · exact h1
      · rcases h2 with h2 | h2
        · exact h2.symm
        · exact (ht.asymm (ha.head h2) (hb.head h1)).elim
    subst hxy
    have : a = b := KS.unique ht ha.tail hb.tail fun z => by
      have hz := he z
      simp only [List.mem_cons] at hz
      constructor
      · intro hm
        rcases hz.mp (Or.inr hm) with e | e
        · subst e; exact (ht.irrefl _ (ha.head hm)).elim
        · exact e
      · intro hm
        rcases hz.mpr (Or.inr hm) with e | e
        · subst e; exact (ht.irrefl _ (hb.head hm)).elim
        · exact e
    rw [this]
section
variable [DecidableEq κ]
/-- What is under a key. -/
def getM (key : α → κ) (k : κ) : List α → Option α
  | [] => none
  | x :: t => if key x = k then some x else getM key k t
theorem getM_mem (k : κ) : ∀ {l : List α} {x : α}, getM key k l = some x → x ∈ l ∧ key x = k
  | [], x, h => by cases h
  | y :: t, x, h => by
    unfold getM at h
    by_cases e : key y = k
    · rw [if_pos e] at h
      cases h
      exact ⟨by simp, e⟩
    · rw [if_neg e] at h
      obtain ⟨a, b⟩ := getM_mem k h
      exact ⟨List.mem_cons_of_mem _ a, b⟩
theorem getM_none (k : κ) : ∀ {l : List α}, getM key k l = none ↔ ∀ x ∈ l, key x ≠ k
  | [] => by simp [getM]
  | y :: t => by
    unfold getM
    by_cases e : key y = k
    · rw [if_pos e]
      constructor
      · intro h; cases h
      · intro h; exact absurd e (h y (by simp))
    · rw [if_neg e, getM_none k, List.forall_mem_cons]
      exact ⟨fun h => ⟨e, h⟩, fun h => h.2⟩
theorem getM_some (ht : TO lt) {l : List α} (h : KS lt key l) (k : κ) (x : α) : getM key k l = some x ↔ x ∈ l ∧ key x = k := by
  constructor
  · exact getM_mem k
  · rintro ⟨hx, e⟩
    cases hg : getM key k l with
    | none => exact absurd e ((getM_none k).mp hg x hx)
    | some y =>
      obtain ⟨a, b⟩ := getM_mem k hg
      rw [h.inj ht a hx (b.trans e.symm)]
/-- Two such rows with the same under each key are one. -/
theorem KS.ext (ht : TO lt) {a b : List α} (ha : KS lt key a) (hb : KS lt key b) (h : ∀ k, getM key k a = getM key k b) : a = b :=
  KS.unique ht ha hb fun x => by
    have h1 := getM_some ht ha (key x) x
    have h2 := getM_some ht hb (key x) x
    rw [h (key x)] at h1
    constructor
    · intro hx; exact (h2.mp (h1.mpr ⟨hx, rfl⟩)).1
    · intro hx; exact (h1.mp (h2.mpr ⟨hx, rfl⟩)).1
/-- Without a key. -/
def dropM (key : α → κ) (k : κ) (l : List α) : List α := l.filter fun x => decide (key x ≠ k)
theorem mem_dropM (k : κ) (l : List α) (x : α) : x ∈ dropM key k l ↔ x ∈ l ∧ key x ≠ k := by
  unfold dropM; rw [List.mem_filter, decide_eq_true_eq]
theorem dropM_KS {l : List α} (h : KS lt key l) (k : κ) : KS lt key (dropM key k l) := List.Pairwise.filter _ h
theorem dropM_length (k : κ) (l : List α) : (dropM key k l).length ≤ l.length := List.length_filter_le _ _
end
/-- An element is put under its key. -/
def putM [DecidableEq κ] (lt : κ → κ → Prop) [DecidableRel lt] (key : α → κ) (v : α) (l : List α) : List α := sink (fun u v => decide (lt (key v) (key u))) v (dropM key (key v) l)
/-- A row that rises by its keys: an element sinks to its place. -/
theorem sinkR_KS (ht : TO lt) {gt : α → α → Bool} (v : α) : ∀ p q, (∀ u, u ∈ p → (gt u v = true ↔ lt (key v) (key u))) → (∀ u ∈ p, key u ≠ key v) → KS lt key (p.reverse ++ q) → (∀ u ∈ q, lt (key v) (key u)) → KS lt key (sinkR gt v p q)
  | [], q, hg, hn, hs, hv => by
    unfold KS at hs ⊢
    rw [sinkR, List.pairwise_cons]; exact ⟨hv, by simpa using hs⟩
  | u :: p, q, hg, hn, hs, hv => by
    unfold sinkR
    split
    · rename_i hgt
      refine sinkR_KS ht v p (u :: q) (fun u hu => hg u (List.mem_cons_of_mem _ hu)) (fun w hw => hn w (List.mem_cons_of_mem _ hw)) (by simpa using hs) ?_
      intro w hw
      rcases List.mem_cons.mp hw with e | e
      · subst e; exact (hg w (by simp)).mp hgt
      · exact hv w e
    · rename_i hgt
      have hlt : lt (key u) (key v) := by
        rcases ht.tri (key u) (key v) with e | e | e
        · exact absurd e (hn u (by simp))
        · exact e
        · exact absurd ((hg u (by simp)).mpr e) hgt
      unfold KS at hs ⊢
      rw [List.pairwise_append] at hs ⊢
      refine ⟨hs.1, ?_, ?_⟩
      · rw [List.pairwise_cons]; exact ⟨hv, hs.2.1⟩
      · intro a ha b hb
        rcases List.mem_cons.mp hb with e | e
        · subst e
          rw [List.mem_reverse, List.mem_cons] at ha
          rcases ha with e | e
          · subst e; exact hlt
          · have h1 := hs.1
            rw [List.reverse_cons, List.pairwise_append] at h1
            exact ht.trans _ _ _ (h1.2.2 a (by simpa using e) u (by simp)) hlt
        · exact hs.2.2 a ha b e
theorem sink_KS (ht : TO lt) {gt : α → α → Bool} (v : α) (l : List α) (hg : ∀ u, u ∈ l → (gt u v = true ↔ lt (key v) (key u))) (hn : ∀ u ∈ l, key u ≠ key v) (hs : KS lt key l) : KS lt key (sink gt v l) := by
  unfold sink
  exact sinkR_KS ht v _ _ (fun u hu => hg u (by simpa using hu)) (fun u hu => hn u (by simpa using hu)) (by simpa using hs) (by simp)
section
variable [DecidableEq κ] [DecidableRel lt]
theorem mem_putM (v : α) (l : List α) (x : α) : x ∈ putM lt key v l ↔ x = v ∨ (x ∈ l ∧ key x ≠ key v) := by
  unfold putM; rw [mem_sink, mem_dropM]
theorem putM_KS (ht : TO lt) (v : α) {l : List α} (h : KS lt key l) : KS lt key (putM lt key v l) :=
  sink_KS ht v _ (fun u _ => by rw [decide_eq_true_eq]) (fun u hu => ((mem_dropM _ _ _).mp hu).2) (dropM_KS h _)
theorem putM_length (v : α) (l : List α) : (putM lt key v l).length ≤ l.length + 1 := by
  unfold putM; rw [sink_length]; have := dropM_length (key := key) (key v) l; omega
theorem getM_putM (ht : TO lt) (v : α) {l : List α} (h : KS lt key l) (k : κ) : getM key k (putM lt key v l) = if k = key v then some v else getM key k l := by
  have hp := putM_KS ht v h
  by_cases e : k = key v
  · rw [if_pos e]
    exact (getM_some ht hp k v).mpr ⟨(mem_putM v l v).mpr (Or.inl rfl), e.symm⟩
  · rw [if_neg e]
    cases hg : getM key k l with
    | none =>
      rw [getM_none] at hg ⊢
      intro x hx
      rcases (mem_putM v l x).mp hx with ex | ⟨hx, _⟩
      · rw [ex]; exact fun h => e h.symm
      · exact hg x hx
    | some y =>
      obtain ⟨a, b⟩ := getM_mem k hg
      exact (getM_some ht hp k y).mpr ⟨(mem_putM v l y).mpr (Or.inr ⟨a, by rw [b]; exact e⟩), b⟩
/-- A row that is put together of what is below a key, the key's, and what is above. -/
theorem putM_parts (ht : TO lt) (v : α) {p q : List α} (h : KS lt key (p ++ q)) (hp : ∀ x ∈ p, lt (key x) (key v)) (hq : ∀ x ∈ q, lt (key v) (key x)) : p ++ v :: q = putM lt key v (p ++ q) := by
  refine KS.unique ht ?_ (putM_KS ht v h) fun x => ?_
  · unfold KS at h ⊢
    rw [List.pairwise_append] at h ⊢
    refine ⟨h.1, List.pairwise_cons.mpr ⟨hq, h.2.1⟩, fun a ha b hb => ?_⟩
    rcases List.mem_cons.mp hb with e | e
    · subst e; exact hp a ha
    · exact h.2.2 a ha b e
  · rw [mem_putM, List.mem_append, List.mem_cons, List.mem_append]
    constructor
    · rintro (hx | hx | hx)
      · exact Or.inr ⟨Or.inl hx, fun e => ht.irrefl _ (e ▸ hp x hx)⟩
      · exact Or.inl hx
      · exact Or.inr ⟨Or.inr hx, fun e => ht.irrefl _ (e ▸ hq x hx)⟩
    · rintro (hx | ⟨hx | hx, _⟩)
      · exact Or.inr (Or.inl hx)
      · exact Or.inl hx
      · exact Or.inr (Or.inr hx)
/-- The element under a key gives way to another one. -/
theorem putM_set (ht : TO lt) (v : α) {l : List α} (h : KS lt key l) {i : Nat} (hi : i < l.length) (he : key l[i] = key v) : l.set i v = putM lt key v l := by
  have hk : ∀ j (hj : j < l.length), j ≠ i → key l[j] ≠ key v := by
    intro j hj hne e
    have hpw := List.pairwise_iff_getElem.mp h
    rcases Nat.lt_or_gt_of_ne hne with hlt | hlt
    · have := hpw j i hj hi hlt
      rw [e, he] at this
      exact ht.irrefl _ this
    · have := hpw i j hi hj hlt
      rw [e, he] at this
      exact ht.irrefl _ this
  refine KS.unique ht ?_ (putM_KS ht v h) fun x => ?_
  · unfold KS
    rw [List.pairwise_iff_getElem]
    intro a b ha hb hab
    have ha' : a < l.length := by simpa using ha
    have hb' : b < l.length := by simpa using hb
    have hpw := List.pairwise_iff_getElem.mp h
    rw [List.getElem_set, List.getElem_set]
    by_cases e1 : i = a
    · subst e1
      rw [if_pos rfl, if_neg (by omega), ← he]
      exact hpw _ _ _ _ hab
    · rw [if_neg e1]
      by_cases e2 : i = b
      · subst e2
        rw [if_pos rfl, ← he]
        exact hpw _ _ _ _ hab
      · rw [if_neg e2]
        exact hpw _ _ _ _ hab
  · rw [mem_putM]
    constructor
    · intro hx
      obtain ⟨j, hj, e⟩ := List.mem_iff_getElem.mp hx
      rw [List.getElem_set] at e
      by_cases e1 : i = j
      · rw [if_pos e1] at e; exact Or.inl e.symm
      · rw [if_neg e1] at e
        have hj' : j < l.length := by simpa using hj
        refine Or.inr ⟨e ▸ List.getElem_mem _, ?_⟩
        rw [← e]; exact hk j hj' (fun h => e1 h.symm)
    · rintro (e | ⟨hx, hne⟩)
      · subst e; exact List.mem_iff_getElem.mpr ⟨i, by simpa using hi, by simp⟩
      · obtain ⟨j, hj, e⟩ := List.mem_iff_getElem.mp hx
        have hij : i ≠ j := by
          intro e1; subst e1
          rw [e] at he; exact hne he
        exact List.mem_iff_getElem.mpr ⟨j, by simpa using hj, by rw [List.getElem_set, if_neg hij]; exact e⟩
end
end
end Go.Proofs.Ytgdkgobplinelaa
