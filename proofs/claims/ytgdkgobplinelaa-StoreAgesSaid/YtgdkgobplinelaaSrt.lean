import Derived.Test.YtgdkgobplinelaaBase
import Derived.Lib.SlicesCompact
namespace Go.Proofs.Ytgdkgobplinelaa
variable {α : Type}
structure TO (lt : α → α → Prop) : Prop where
  irrefl : ∀ x, ¬ lt x x
  trans : ∀ x y z, lt x y → lt y z → lt x z
  tri : ∀ x y, x = y ∨ lt x y ∨ lt y x
theorem TO.asymm {lt : α → α → Prop} (h : TO lt) {x y : α} (h1 : lt x y) (h2 : lt y x) : False := h.irrefl _ (h.trans _ _ _ h1 h2)
theorem ssort_unique {lt : α → α → Prop} (h : TO lt) : ∀ {a b : List α}, a.Pairwise lt → b.Pairwise lt → (∀ x, x ∈ a ↔ x ∈ b) → a = b
  | [], [], _, _, _ => rfl
  | [], y :: b, _, _, he => by have := (he y).mpr (by simp); simp at this
  | x :: a, [], _, _, he => by have := (he x).mp (by simp); simp at this
  | x :: a, y :: b, ha, hb, he => by
    rw [List.pairwise_cons] at ha hb
    have hxy : x = y := by
      have h1 := (he x).mp (by simp)
      have h2 := (he y).mpr (by simp)
      rw [List.mem_cons] at h1 h2
      rcases h1 with h1 | h1
      · exact h1
      · rcases h2 with h2 | h2
        · exact h2.symm
        · exact (h.asymm (ha.1 _ h2) (hb.1 _ h1)).elim
    subst hxy
    have : a = b := ssort_unique h ha.2 hb.2 fun z => by
      have hz := he z
      simp only [List.mem_cons] at hz
      constructor
      · intro hm
        rcases hz.mp (Or.inr hm) with e | e
        · subst e; exact (h.irrefl _ (ha.1 _ hm)).elim
        · exact e
      · intro hm
        rcases hz.mpr (Or.inr hm) with e | e
        · subst e; exact (h.irrefl _ (hb.1 _ hm)).elim
        · exact e
    rw [this]
def sinkR (gt : α → α → Bool) (v : α) : List α → List α → List α
  | [], q => v :: q
  | u :: p, q => if gt u v = true then sinkR gt v p (u :: q) else (u :: p).reverse ++ v :: q
def sink (gt : α → α → Bool) (v : α) (l : List α) : List α := sinkR gt v l.reverse []
theorem sinkR_perm (gt : α → α → Bool) (v : α) : ∀ p q, (sinkR gt v p q).Perm (v :: (p.reverse ++ q))
  | [], q => by simp [sinkR]
  | u :: p, q => by
    unfold sinkR
    split
    · refine (sinkR_perm gt v p (u :: q)).trans ?_
      simp
    · exact List.perm_middle
theorem sink_perm (gt : α → α → Bool) (v : α) (l : List α) : (sink gt v l).Perm (v :: l) := by
  have := sinkR_perm gt v l.reverse []
  simpa [sink] using this
theorem mem_sink {gt : α → α → Bool} {v : α} {l : List α} {x : α} : x ∈ sink gt v l ↔ x = v ∨ x ∈ l := by
  rw [(sink_perm gt v l).mem_iff, List.mem_cons]
theorem sink_length (gt : α → α → Bool) (v : α) (l : List α) : (sink gt v l).length = l.length + 1 := by
  rw [(sink_perm gt v l).length_eq, List.length_cons]
theorem compact_sorted [Inhabited α] [DecidableEq α] {lt : α → α → Prop} (h : TO lt) (d : Array α) (hs : ∀ i j, i < j → j < d.size → ¬ lt d[j]! d[i]!) : ∀ m, m ≤ d.size → (Lib.compactUpTo d m).Pairwise lt ∧ ∀ x, x ∈ Lib.compactUpTo d m ↔ ∃ j, j < m ∧ d[j]! = x
  | 0, _ => by simp [Lib.compactUpTo]
  | m + 1, hm => by
    obtain ⟨h1, h2⟩ := compact_sorted h d hs m (by omega)
    rw [Lib.compactUpTo_succ]
    by_cases hk : Lib.keeps d m = true
    · rw [if_pos hk]
      constructor
      · rw [List.pairwise_append]
        refine ⟨h1, List.pairwise_singleton _ _, ?_⟩
        intro a ha b hb
        rw [List.mem_singleton] at hb; subst hb
        obtain ⟨j, hj, rfl⟩ := (h2 a).mp ha
        have hne : d[m]! ≠ d[m - 1]! := by
          have hk' := of_decide_eq_true hk
          rcases hk' with e | e
          · omega
          · exact e
        have hlt : lt d[m - 1]! d[m]! := by
          rcases h.tri d[m - 1]! d[m]! with e | e | e
          · exact absurd e.symm hne
          · exact e
          · exact absurd e (hs _ _ (by omega) (by omega))
        by_cases e : j = m - 1
        · subst e; exact hlt
        · rcases h.tri d[j]! d[m - 1]! with e' | e' | e'
          · rw [e']; exact hlt
          · exact h.trans _ _ _ e' hlt
          · exact absurd e' (hs _ _ (by omega) (by omega))
      · intro x
        rw [List.mem_append, List.mem_singleton, h2]
        constructor
        · rintro (⟨j, hj, e⟩ | e)
          · exact ⟨j, by omega, e⟩
          · exact ⟨m, by omega, e.symm⟩
        · rintro ⟨j, hj, e⟩
          by_cases e' : j = m
          · subst e'; exact Or.inr e.symm
          · exact Or.inl ⟨j, by omega, e⟩
    · rw [if_neg hk, List.append_nil]
      refine ⟨h1, fun x => ?_⟩
      rw [h2]
      have hk' : ¬ (m = 0 ∨ d[m]! ≠ d[m - 1]!) := fun e => hk (decide_eq_true e)
      have hm0 : m ≠ 0 := fun e => hk' (Or.inl e)
      have he : d[m]! = d[m - 1]! := Classical.byContradiction fun e => hk' (Or.inr e)
      constructor
      · rintro ⟨j, hj, e⟩; exact ⟨j, by omega, e⟩
      · rintro ⟨j, hj, e⟩
        by_cases e' : j = m
        · subst e'; exact ⟨j - 1, by omega, by rw [← he]; exact e⟩
        · exact ⟨j, by omega, e⟩
theorem sort_compact [Inhabited α] [DecidableEq α] {lt : α → α → Prop} (h : TO lt) (le : α → α → Bool) (hle : ∀ x y, le x y = true ↔ ¬ lt y x) (l : List α) :
    (Lib.compactUpTo (l.mergeSort le).toArray (l.mergeSort le).toArray.size).Pairwise lt ∧ ∀ x, x ∈ Lib.compactUpTo (l.mergeSort le).toArray (l.mergeSort le).toArray.size ↔ x ∈ l := by
  have hsort : (l.mergeSort le).Pairwise (fun a b => le a b = true) := by
    refine List.pairwise_mergeSort ?_ ?_ l
    · intro a b c h1 h2
      rw [hle] at *
      intro h3
      rcases h.tri a b with e | e | e
      · subst e; exact h2 h3
      · rcases h.tri b c with e' | e' | e'
        · subst e'; exact h1 h3
        · exact h.asymm h3 (h.trans _ _ _ e e')
        · exact h2 e'
      · exact h1 e
    · intro a b
      rw [Bool.or_eq_true, hle, hle]
      rcases h.tri a b with e | e | e
      · subst e; exact Or.inl (h.irrefl _)
      · exact Or.inl fun h2 => h.asymm e h2
      · exact Or.inr fun h2 => h.asymm e h2
  have hs : ∀ i j, i < j → j < (l.mergeSort le).toArray.size → ¬ lt (l.mergeSort le).toArray[j]! (l.mergeSort le).toArray[i]! := by
    intro i j hij hj
    have hj' : j < (l.mergeSort le).length := by simpa using hj
    have hi' : i < (l.mergeSort le).length := by omega
    have := List.pairwise_iff_getElem.mp hsort i j hi' hj' hij
    rw [hle] at this
    rwa [getElem!_pos _ j hj, getElem!_pos _ i (by simpa using hi'), List.getElem_toArray, List.getElem_toArray]
  obtain ⟨h1, h2⟩ := compact_sorted h _ hs _ (Nat.le_refl _)
  refine ⟨h1, fun x => ?_⟩
  rw [h2, ← (List.mergeSort_perm l le).mem_iff]
  constructor
  · rintro ⟨j, hj, e⟩
    rw [getElem!_pos _ j hj, List.getElem_toArray] at e
    exact e ▸ List.getElem_mem _
  · intro hx
    obtain ⟨j, hj, e⟩ := List.mem_iff_getElem.mp hx
    exact ⟨j, by simpa using hj, by rw [getElem!_pos _ j (by simpa using hj), List.getElem_toArray]; exact e⟩
theorem bsI_spec (c : Nat → Int) (n : Nat) (hm : ∀ i j, i < j → j < n → c j < 0 → c i < 0) : ∀ f i j, i ≤ j → j ≤ n → j - i < f → (∀ x, x < i → c x < 0) → (∀ x, j ≤ x → x < n → ¬ c x < 0) →
    i ≤ bsI c f i j ∧ bsI c f i j ≤ j ∧ (∀ x, x < bsI c f i j → c x < 0) ∧ (∀ x, bsI c f i j ≤ x → x < n → ¬ c x < 0)
  | 0, i, j, _, _, hf, _, _ => absurd hf (by omega)
  | f + 1, i, j, hij, hj, hf, hl, hr => by
    unfold bsI
    by_cases h : i < j
    · rw [if_pos h]
      by_cases hc : c ((i + j) / 2) < 0
      · rw [if_pos hc]
        obtain ⟨a, b, d, e⟩ := bsI_spec c n hm f ((i + j) / 2 + 1) j (by omega) hj (by omega) (fun x hx => by
          by_cases e : x = (i + j) / 2
          · subst e; exact hc
          · exact hm x _ (by omega) (by omega) hc) hr
        exact ⟨by omega, b, d, e⟩
      · rw [if_neg hc]
        obtain ⟨a, b, d, e⟩ := bsI_spec c n hm f i ((i + j) / 2) (by omega) (by omega) (by omega) hl (fun x hx hxn hcx => by
          by_cases e : x = (i + j) / 2
          · subst e; exact hc hcx
          · exact hc (hm _ x (by omega) hxn hcx))
        exact ⟨a, by omega, d, e⟩
    · rw [if_neg h]
      have : i = j := by omega
      subst this
      exact ⟨Nat.le_refl _, Nat.le_refl _, hl, hr⟩
theorem bsN_spec (c : Nat → Int) (n : Nat) (hm : ∀ i j, i < j → j < n → c j < 0 → c i < 0) : bsN c n ≤ n ∧ (∀ x, x < bsN c n → c x < 0) ∧ (∀ x, bsN c n ≤ x → x < n → ¬ c x < 0) := by
  obtain ⟨_, h2, h3, h4⟩ := bsI_spec c n hm (n + 1) 0 n (Nat.zero_le _) (Nat.le_refl _) (by omega) (fun x hx => absurd hx (by omega)) (fun x h1 h2 => absurd h2 (by omega))
  exact ⟨h2, h3, h4⟩
theorem bsB_iff (c : Nat → Int) (n : Nat) (hm : ∀ i j, i < j → j < n → c j < 0 → c i < 0) (hz : ∀ i j, i < j → j < n → c j = 0 → c i < 0) : bsB c n = true ↔ ∃ i, i < n ∧ c i = 0 := by
  obtain ⟨h1, h2, h3⟩ := bsN_spec c n hm
  unfold bsB
  rw [Bool.and_eq_true, decide_eq_true_eq, decide_eq_true_eq]
  constructor
  · rintro ⟨a, b⟩; exact ⟨_, a, b⟩
  · rintro ⟨i, hi, hc⟩
    have hge : bsN c n ≤ i := by
      apply Classical.byContradiction; intro h
      have := h2 i (by omega); omega
    by_cases e : bsN c n = i
    · rw [e]; exact ⟨hi, hc⟩
    · have := hz (bsN c n) i (by omega) hi hc
      exact absurd this (h3 _ (Nat.le_refl _) (by omega))
end Go.Proofs.Ytgdkgobplinelaa
