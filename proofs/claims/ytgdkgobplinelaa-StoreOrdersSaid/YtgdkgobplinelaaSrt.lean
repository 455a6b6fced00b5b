import Derived.Test.YtgdkgobplinelaaBase
import Derived.Lib.SlicesCompact
/- Lists in strict order: what tells two of them apart, how one grows by an element that sinks from its end, and how one is searched. No program in sight. -/
namespace Go.Proofs.Ytgdkgobplinelaa
variable {α : Type}
/-- A strict total order. -/
structure TO (lt : α → α → Prop) : Prop where
  irrefl : ∀ x, ¬ lt x x
  trans : ∀ x y z, lt x y → lt y z → lt x z
  tri : ∀ x y, x = y ∨ lt x y ∨ lt y x
theorem TO.asymm {lt : α → α → Prop} (h : TO lt) {x y : α} (h1 : lt x y) (h2 : lt y x) : False := h.irrefl _ (h.trans _ _ _ h1 h2)
/-- Two lists in strict order with the same elements are one. -/
theorem ssort_unique {lt : α → α → Prop} (h : TO lt) : ∀ {a b : List α}, a.Pairwise lt → b.Pairwise lt → (∀ x, x ∈ a ↔ x ∈ b) → a = b
  | [], [], _, _, _ => rfl
  | [], y :: b, _, _, he => by have := (he y).mpr (by simp); simp at this
  | x :: a, [], _, _, he => by have := (he x).mp (by simp); simp at this
  | x :: a, y :: b, ha, hb, he => by
    rw [List.pairwise_cons] at ha hb
    have hxy : x = y := by
      have h1 := (he x).mp (by simp)
      have h2 := (he y).mpr (by simp)
      rw [List.mem_cons] at h1 h2
      rcases h1 with h1 | h1
      · exact h1
      · rcases h2 with h2 | h2
        · exact h2.symm
        · exact (h.asymm (ha.1 _ h2) (hb.1 _ h1)).elim
    subst hxy
    have : a = b := ssort_unique h ha.2 hb.2 fun z => by
      have hz := he z
      simp only [List.mem_cons] at hz
      constructor
      · intro hm
        rcases hz.mp (Or.inr hm) with e | e
        · subst e; exact (h.irrefl _ (ha.1 _ hm)).elim
        · exact e
      · intro hm
        rcases hz.mpr (Or.inr hm) with e | e
        · subst e; exact (h.irrefl _ (hb.1 _ hm)).elim
        · exact e
    rw [this]
/-- An element sinks from the end to its place: the part ahead of it comes backwards. -/
def sinkR (gt : α → α → Bool) (v : α) : List α → List α → List α
  | [], q => v :: q
  | u :: p, q => if gt u v = true then sinkR gt v p (u :: q) else (u :: p).reverse ++ v :: q
def sink (gt : α → α → Bool) (v : α) (l : List α) : List α := sinkR gt v l.reverse []
theorem sinkR_perm (gt : α → α → Bool) (v : α) : ∀ p q, (sinkR gt v p q).Perm (v :: (p.reverse ++ q))
  | [], q => by simp [sinkR]
  | u :: p, q => by
    unfold sinkR
    split
    · refine (sinkR_perm gt v p (u :: q)).trans ?_
      simp
    · exact List.perm_middle
theorem sink_perm (gt : α → α → Bool) (v : α) (l : List α) : (sink gt v l).Perm (v :: l) := by
  have := sinkR_perm gt v l.reverse []
  simpa [sink] using this
theorem mem_sink {gt : α → α → Bool} {v : α} {l : List α} {x : α} : x ∈ sink gt v l ↔ x = v ∨ x ∈ l := by
  rw [(sink_perm gt v l).mem_iff, List.mem_cons]
theorem sink_length (gt : α → α → Bool) (v : α) (l : List α) : (sink gt v l).length = l.length + 1 := by
  rw [(sink_perm gt v l).length_eq, List.length_cons]
/-- What a search by halves finds: the first place that isn't below. -/
theorem bsI_spec (c : Nat → Int) (n : Nat) (hm : ∀ i j, i < j → j < n → c j < 0 → c i < 0) : ∀ f i j, i ≤ j → j ≤ n → j - i < f → (∀ x, x < i → c x < 0) → (∀ x, j ≤ x → x < n → ¬ c x < 0) →
    i ≤ bsI c f i j ∧ bsI c f i j ≤ j ∧ (∀ x, x < bsI c f i j → c x < 0) ∧ (∀ x, bsI c f i j ≤ x → x < n → ¬ c x < 0)
  | 0, i, j, _, _, hf, _, _ => absurd hf (by omega)
  | f + 1, i, j, hij, hj, hf, hl, hr => by
    unfold bsI
    by_cases h : i < j
    · rw [if_pos h]
      by_cases hc : c ((i + j) / 2) < 0
      · rw [if_pos hc]
        obtain ⟨a, b, d, e⟩ := bsI_spec c n hm f ((i + j) / 2 + 1) j (by omega) hj (by omega) (fun x hx => by
          by_cases e : x = (i + j) / 2
          · subst e; exact hc
          · exact hm x _ (by omega) (by omega) hc) hr
        exact ⟨by omega, b, d, e⟩
      · rw [if_neg hc]
        obtain ⟨a, b, d, e⟩ := bsI_spec c n hm f i ((i + j) / 2) (by omega) (by omega) (by omega) hl (fun x hx hxn hcx => by
          by_cases e : x = (i + j) / 2
          · subst e; exact hc hcx
          · exact hc (hm _ x (by omega) hxn hcx))
        exact ⟨a, by omega, d, e⟩
    · rw [if_neg h]
      have : i = j := by omega
      subst this
      exact ⟨Nat.le_refl _, Nat.le_refl _, hl, hr⟩
theorem bsN_spec (c : Nat → Int) (n : Nat) (hm : ∀ i j, i < j → j < n → c j < 0 → c i < 0) : bsN c n ≤ n ∧ (∀ x, x < bsN c n → c x < 0) ∧ (∀ x, bsN c n ≤ x → x < n → ¬ c x < 0) := by
  obtain ⟨_, h2, h3, h4⟩ := bsI_spec c n hm (n + 1) 0 n (Nat.zero_le _) (Nat.le_refl _) (by omega) (fun x hx => absurd hx (by omega)) (fun x h1 h2 => absurd h2 (by omega))
  exact ⟨h2, h3, h4⟩
theorem bsB_iff (c : Nat → Int) (n : Nat) (hm : ∀ i j, i < j → j < n → c j < 0 → c i < 0) (hz : ∀ i j, i < j → j < n → c j = 0 → c i < 0) : bsB c n = true ↔ ∃ i, i < n ∧ c i = 0 := by
  obtain ⟨h1, h2, h3⟩ := bsN_spec c n hm
  unfold bsB
  rw [Bool.and_eq_true, decide_eq_true_eq, decide_eq_true_eq]
  constructor
  · rintro ⟨a, b⟩; exact ⟨_, a, b⟩
  · rintro ⟨i, hi, hc⟩
    have hge : bsN c n ≤ i := by
      apply Classical.byContradiction; intro h
      have := h2 i (by omega); omega
    by_cases e : bsN c n = i
    · rw [e]; exact ⟨hi, hc⟩
    · have := hz (bsN c n) i (by omega) hi hc
      exact absurd this (h3 _ (Nat.le_refl _) (by omega))
end Go.Proofs.Ytgdkgobplinelaa
