import Derived.Test.YtgdkgobplinelaaOrdB
namespace Go.Proofs.Ytgdkgobplinelaa
set_option linter.unusedVariables false
section
variable {α κ : Type} {lt : κ → κ → Prop} {key : α → κ}
def KS (lt : κ → κ → Prop) (key : α → κ) (l : List α) : Prop := l.Pairwise (fun x y => lt (key x) (key y))
theorem KS.nil : KS lt key [] := List.Pairwise.nil
theorem KS.tail {x : α} {l : List α} (h : KS lt key (x :: l)) : KS lt key l := (List.pairwise_cons.mp h).2
theorem KS.head {x : α} {l : List α} (h : KS lt key (x :: l)) {y : α} (hy : y ∈ l) : lt (key x) (key y) := (List.pairwise_cons.mp h).1 y hy
theorem KS.inj (ht : TO lt) : ∀ {l : List α}, KS lt key l → ∀ {x y : α}, x ∈ l → y ∈ l → key x = key y → x = y
  | [], _, x, y, hx, _, _ => by cases hx
  | z :: l, h, x, y, hx, hy, e => by
    rcases List.mem_cons.mp hx with ex | hx
    · rcases List.mem_cons.mp hy with ey | hy
      · rw [ex, ey]
      · have h1 := h.head hy
        rw [← ex, e] at h1
        exact absurd h1 (ht.irrefl _)
    · rcases List.mem_cons.mp hy with ey | hy
      · have h1 := h.head hx
        rw [← ey, e] at h1
        exact absurd h1 (ht.irrefl _)
      · exact KS.inj ht h.tail hx hy e
theorem KS.unique (ht : TO lt) : ∀ {a b : List α}, KS lt key a → KS lt key b → (∀ x, x ∈ a ↔ x ∈ b) → a = b
  | [], [], _, _, _ => rfl
  | [], y :: b, _, _, he => by have := (he y).mpr (by simp); simp at this
  | x :: a, [], _, _, he => by have := (he x).mp (by simp); simp at this
  | x :: a, y :: b, ha, hb, he => by
    have hxy : x = y := by
      have h1 := (he x).mp (by simp)
      have h2 := (he y).mpr (by simp)
      rw [List.mem_cons] at h1 h2
      rcases h1 with h1 | h1
      · exact h1
      · rcases h2 with h2 | h2
        · exact h2.symm
        · exact (ht.asymm (ha.head h2) (hb.head h1)).elim
    subst hxy
    have : a = b := KS.unique ht ha.tail hb.tail fun z => by
      have hz := he z
      simp only [List.mem_cons] at hz
      constructor
      · intro hm
        rcases hz.mp (Or.inr hm) with e | e
        · subst e; exact (ht.irrefl _ (ha.head hm)).elim
        · exact e
      · intro hm
        rcases hz.mpr (Or.inr hm) with e | e
        · subst e; exact (ht.irrefl _ (hb.head hm)).elim
        · exact e
    rw [this]
section
variable [DecidableEq κ]
def getM (key : α → κ) (k : κ) : List α → Option α
  | [] => none
  | x :: t => if key x = k then some x else getM key k t
theorem getM_mem (k : κ) : ∀ {l : List α} {x : α}, getM key k l = some x → x ∈ l ∧ key x = k
  | [], x, h => by cases h
  | y :: t, x, h => by
    unfold getM at h
    by_cases e : key y = k
    · rw [if_pos e] at h
      cases h
      exact ⟨by simp, e⟩
    · rw [if_neg e] at h
      obtain ⟨a, b⟩ := getM_mem k h
      exact ⟨List.mem_cons_of_mem _ a, b⟩
theorem getM_none (k : κ) : ∀ {l : List α}, getM key k l = none ↔ ∀ x ∈ l, key x ≠ k
  | [] => by simp [getM]
  | y :: t => by
    unfold getM
    by_cases e : key y = k
    · rw [if_pos e]
      constructor
      · intro h; cases h
      · intro h; exact absurd e (h y (by simp))
    · rw [if_neg e, getM_none k, List.forall_mem_cons]
      exact ⟨fun h => ⟨e, h⟩, fun h => h.2⟩
theorem getM_some (ht : TO lt) {l : List α} (h : KS lt key l) (k : κ) (x : α) : getM key k l = some x ↔ x ∈ l ∧ key x = k := by
  constructor
  · exact getM_mem k
  · rintro ⟨hx, e⟩
    cases hg : getM key k l with
    | none => exact absurd e ((getM_none k).mp hg x hx)
    | some y =>
      obtain ⟨a, b⟩ := getM_mem k hg
      rw [h.inj ht a hx (b.trans e.symm)]
theorem KS.ext (ht : TO lt) {a b : List α} (ha : KS lt key a) (hb : KS lt key b) (h : ∀ k, getM key k a = getM key k b) : a = b :=
  KS.unique ht ha hb fun x => by
    have h1 := getM_some ht ha (key x) x
    have h2 := getM_some ht hb (key x) x
    rw [h (key x)] at h1
    constructor
    · intro hx; exact (h2.mp (h1.mpr ⟨hx, rfl⟩)).1
    · intro hx; exact (h1.mp (h2.mpr ⟨hx, rfl⟩)).1
def dropM (key : α → κ) (k : κ) (l : List α) : List α := l.filter fun x => decide (key x ≠ k)
theorem mem_dropM (k : κ) (l : List α) (x : α) : x ∈ dropM key k l ↔ x ∈ l ∧ key x ≠ k := by
  unfold dropM; rw [List.mem_filter, decide_eq_true_eq]
theorem dropM_KS {l : List α} (h : KS lt key l) (k : κ) : KS lt key (dropM key k l) := List.Pairwise.filter _ h
theorem dropM_length (k : κ) (l : List α) : (dropM key k l).length ≤ l.length := List.length_filter_le _ _
theorem getM_dropM (k k' : κ) : ∀ (l : List α), getM key k' (dropM key k l) = if k' = k then none else getM key k' l
  | [] => by simp [dropM, getM]
  | x :: t => by
    have ih := getM_dropM k k' t
    unfold dropM at ih ⊢
    by_cases e : key x = k
    · rw [List.filter_cons_of_neg (by simp [e]), ih]
      by_cases e2 : k' = k
      · rw [if_pos e2, if_pos e2]
      · rw [if_neg e2, if_neg e2, getM, if_neg (by rw [e]; exact fun h => e2 h.symm)]
    · rw [List.filter_cons_of_pos (by simp [e]), getM, ih]
      by_cases e2 : k' = k
      · rw [if_pos e2, if_pos e2, if_neg (by rw [e2]; exact e)]
      · rw [if_neg e2, if_neg e2, getM]
end
def putM [DecidableEq κ] (lt : κ → κ → Prop) [DecidableRel lt] (key : α → κ) (v : α) (l : List α) : List α := sink (fun u v => decide (lt (key v) (key u))) v (dropM key (key v) l)
theorem sinkR_KS (ht : TO lt) {gt : α → α → Bool} (v : α) : ∀ p q, (∀ u, u ∈ p → (gt u v = true ↔ lt (key v) (key u))) → (∀ u ∈ p, key u ≠ key v) → KS lt key (p.reverse ++ q) → (∀ u ∈ q, lt (key v) (key u)) → KS lt key (sinkR gt v p q)
  | [], q, hg, hn, hs, hv => by
    unfold KS at hs ⊢
    rw [sinkR, List.pairwise_cons]; exact ⟨hv, by simpa using hs⟩
  | u :: p, q, hg, hn, hs, hv => by
    unfold sinkR
    split
    · rename_i hgt
      refine sinkR_KS ht v p (u :: q) (fun u hu => hg u (List.mem_cons_of_mem _ hu)) (fun w hw => hn w (List.mem_cons_of_mem _ hw)) (by simpa using hs) ?_
      intro w hw
      rcases List.mem_cons.mp hw with e | e
      · subst e; exact (hg w (by simp)).mp hgt
      · exact hv w e
    · rename_i hgt
      have hlt : lt (key u) (key v) := by
        rcases ht.tri (key u) (key v) with e | e | e
        · exact absurd e (hn u (by simp))
        · exact e
        · exact absurd ((hg u (by simp)).mpr e) hgt
      unfold KS at hs ⊢
      rw [List.pairwise_append] at hs ⊢
      refine ⟨hs.1, ?_, ?_⟩
      · rw [List.pairwise_cons]; exact ⟨hv, hs.2.1⟩
      · intro a ha b hb
        rcases List.mem_cons.mp hb with e | e
        · subst e
          rw [List.mem_reverse, List.mem_cons] at ha
          rcases ha with e | e
          · subst e; exact hlt
          · have h1 := hs.1
            rw [List.reverse_cons, List.pairwise_append] at h1
            exact ht.trans _ _ _ (h1.2.2 a (by simpa using e) u (by simp)) hlt
        · exact hs.2.2 a ha b e
theorem sink_KS (ht : TO lt) {gt : α → α → Bool} (v : α) (l : List α) (hg : ∀ u, u ∈ l → (gt u v = true ↔ lt (key v) (key u))) (hn : ∀ u ∈ l, key u ≠ key v) (hs : KS lt key l) : KS lt key (sink gt v l) := by
  unfold sink
  exact sinkR_KS ht v _ _ (fun u hu => hg u (by simpa using hu)) (fun u hu => hn u (by simpa using hu)) (by simpa using hs) (by simp)
section
variable [DecidableEq κ] [DecidableRel lt]
theorem mem_putM (v : α) (l : List α) (x : α) : x ∈ putM lt key v l ↔ x = v ∨ (x ∈ l ∧ key x ≠ key v) := by
  unfold putM; rw [mem_sink, mem_dropM]
theorem putM_KS (ht : TO lt) (v : α) {l : List α} (h : KS lt key l) : KS lt key (putM lt key v l) :=
  sink_KS ht v _ (fun u _ => by rw [decide_eq_true_eq]) (fun u hu => ((mem_dropM _ _ _).mp hu).2) (dropM_KS h _)
theorem putM_length (v : α) (l : List α) : (putM lt key v l).length ≤ l.length + 1 := by
  unfold putM; rw [sink_length]; have := dropM_length (key := key) (key v) l; omega
theorem getM_putM (ht : TO lt) (v : α) {l : List α} (h : KS lt key l) (k : κ) : getM key k (putM lt key v l) = if k = key v then some v else getM key k l := by
  have hp := putM_KS ht v h
  by_cases e : k = key v
  · rw [if_pos e]
    exact (getM_some ht hp k v).mpr ⟨(mem_putM v l v).mpr (Or.inl rfl), e.symm⟩
  · rw [if_neg e]
    cases hg : getM key k l with
    | none =>
      rw [getM_none] at hg ⊢
      intro x hx
      rcases (mem_putM v l x).mp hx with ex | ⟨hx, _⟩
      · rw [ex]; exact fun h => e h.symm
      · exact hg x hx
    | some y =>
      obtain ⟨a, b⟩ := getM_mem k hg
      exact (getM_some ht hp k y).mpr ⟨(mem_putM v l y).mpr (Or.inr ⟨a, by rw [b]; exact e⟩), b⟩
end
end
theorem find_spec {α : Type} {key : α → ByteArray} {l : List α} (d : α) (h : KS ltB key l) (a : ByteArray) :
    (bsB (fun i => cmpB (key (l.getD i d)) a) l.length = true → ∃ hi : bsN (fun i => cmpB (key (l.getD i d)) a) l.length < l.length, key l[bsN (fun i => cmpB (key (l.getD i d)) a) l.length] = a ∧ getM key a l = some l[bsN (fun i => cmpB (key (l.getD i d)) a) l.length]) ∧
    (bsB (fun i => cmpB (key (l.getD i d)) a) l.length = false → getM key a l = none ∧ bsN (fun i => cmpB (key (l.getD i d)) a) l.length ≤ l.length ∧
      (∀ x ∈ l.take (bsN (fun i => cmpB (key (l.getD i d)) a) l.length), ltB (key x) a) ∧ ∀ x ∈ l.drop (bsN (fun i => cmpB (key (l.getD i d)) a) l.length), ltB a (key x)) := by
  generalize hc : (fun i => cmpB (key (l.getD i d)) a) = c
  have hcv : ∀ i (hi : i < l.length), c i = cmpB (key l[i]) a := by
    intro i hi; rw [← hc]; show cmpB (key (l.getD i d)) a = _; rw [getD_eq hi]
  have hpw := List.pairwise_iff_getElem.mp h
  have hm : ∀ i j, i < j → j < l.length → c j < 0 → c i < 0 := by
    intro i j hij hj hcj
    rw [hcv j hj] at hcj
    rw [hcv i (by omega)]
    exact toB.trans _ _ _ (hpw i j (by omega) hj hij) hcj
  have hz : ∀ i j, i < j → j < l.length → c j = 0 → c i < 0 := by
    intro i j hij hj hcj
    rw [hcv j hj] at hcj
    rw [hcv i (by omega), ← cmpB_zero.mp hcj]
    exact hpw i j (by omega) hj hij
  obtain ⟨s1, s2, s3⟩ := bsN_spec c l.length hm
  constructor
  · intro hb
    have hb' := hb
    unfold bsB at hb'
    rw [Bool.and_eq_true, decide_eq_true_eq, decide_eq_true_eq] at hb'
    have hk : key l[bsN c l.length] = a := by
      have := hb'.2
      rw [hcv _ hb'.1] at this
      exact cmpB_zero.mp this
    exact ⟨hb'.1, hk, (getM_some toB h a _).mpr ⟨List.getElem_mem _, hk⟩⟩
  · intro hb
    have hb' : ¬ ∃ i, i < l.length ∧ c i = 0 := by
      rw [← bsB_iff c l.length hm hz, hb]; simp
    refine ⟨?_, s1, ?_, ?_⟩
    · rw [getM_none]
      intro x hx e
      obtain ⟨i, hi, e2⟩ := List.mem_iff_getElem.mp hx
      exact hb' ⟨i, hi, by rw [hcv i hi, e2, e]; exact cmpB_zero.mpr rfl⟩
    · intro x hx
      obtain ⟨i, hi, e⟩ := List.mem_iff_getElem.mp hx
      rw [List.length_take] at hi
      rw [List.getElem_take] at e
      have := s2 i (by omega)
      rw [hcv i (by omega), e] at this
      exact this
    · intro x hx
      obtain ⟨i, hi, e⟩ := List.mem_iff_getElem.mp hx
      rw [List.length_drop] at hi
      rw [List.getElem_drop] at e
      have h1 := s3 (bsN c l.length + i) (by omega) (by omega)
      have h2 : c (bsN c l.length + i) ≠ 0 := fun h => hb' ⟨_, by omega, h⟩
      rw [hcv _ (by omega), e] at h1 h2
      exact gtB.mp (by omega)
end Go.Proofs.Ytgdkgobplinelaa
