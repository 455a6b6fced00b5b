import Derived.Test.YtgdkgobplinelaaWMore
namespace Go.Proofs.Ytgdkgobplinelaa
set_option linter.unusedVariables false
def F2 {ρ β : Type} (P : ρ → β → Prop) : List ρ → List β → Prop
  | [], [] => True
  | a :: l, b :: m => P a b ∧ F2 P l m
  | [], _ :: _ => False
  | _ :: _, [] => False
section
variable {ρ β : Type} {P Q : ρ → β → Prop}
theorem F2.len : ∀ {l : List ρ} {m : List β}, F2 P l m → l.length = m.length
  | [], [], _ => rfl
  | a :: l, b :: m, h => by simp [F2.len h.2]
theorem F2.imp (hPQ : ∀ a b, P a b → Q a b) : ∀ {l : List ρ} {m : List β}, F2 P l m → F2 Q l m
  | [], [], _ => trivial
  | a :: l, b :: m, h => ⟨hPQ _ _ h.1, F2.imp hPQ h.2⟩
theorem F2.at : ∀ {l : List ρ} {m : List β}, F2 P l m → ∀ {j : Nat} {a b}, l[j]? = some a → m[j]? = some b → P a b
  | a :: l, b :: m, h, 0, x, y, h1, h2 => by
    obtain rfl := Option.some.inj h1; obtain rfl := Option.some.inj h2; exact h.1
  | a :: l, b :: m, h, j + 1, x, y, h1, h2 => F2.at h.2 (j := j) h1 h2
theorem F2.getD {l : List ρ} {m : List β} (h : F2 P l m) {j : Nat} (hj : j < m.length) (da : ρ) (db : β) : P (l.getD j da) (m.getD j db) := by
  have hl : j < l.length := by rw [h.len]; exact hj
  refine h.at (j := j) ?_ ?_
  · rw [List.getD_eq_getElem?_getD, List.getElem?_eq_getElem hl]; rfl
  · rw [List.getD_eq_getElem?_getD, List.getElem?_eq_getElem hj]; rfl
theorem F2.of : ∀ {l : List ρ} {m : List β}, l.length = m.length → (∀ (j : Nat) a b, l[j]? = some a → m[j]? = some b → P a b) → F2 P l m
  | [], [], _, _ => trivial
  | a :: l, b :: m, hl, h => ⟨h 0 a b rfl rfl, F2.of (by simpa using hl) (fun j x y h1 h2 => h (j + 1) x y h1 h2)⟩
  | [], b :: m, hl, _ => by simp at hl
  | a :: l, [], hl, _ => by simp at hl
theorem F2.set {l : List ρ} {m : List β} (h : F2 P l m) {i : Nat} {a : ρ} {b : β} (hp : P a b) : F2 P (l.set i a) (m.set i b) := by
  refine F2.of (by simp [h.len]) (fun j x y h1 h2 => ?_)
  by_cases hij : i = j
  · subst hij
    have hl : i < l.length := by have := (List.getElem?_eq_some_iff.1 h1).1; simpa using this
    rw [List.getElem?_set_self hl] at h1
    have hm : i < m.length := by rw [← h.len]; exact hl
    rw [List.getElem?_set_self hm] at h2
    obtain rfl := Option.some.inj h1; obtain rfl := Option.some.inj h2
    exact hp
  · rw [List.getElem?_set_ne hij] at h1 h2
    exact h.at h1 h2
theorem F2.append : ∀ {l : List ρ} {m : List β} {l2 : List ρ} {m2 : List β}, F2 P l m → F2 P l2 m2 → F2 P (l ++ l2) (m ++ m2)
  | [], [], _, _, _, h2 => h2
  | a :: l, b :: m, _, _, h, h2 => ⟨h.1, F2.append h.2 h2⟩
theorem F2.take : ∀ {l : List ρ} {m : List β}, F2 P l m → ∀ i, F2 P (l.take i) (m.take i)
  | [], [], _, i => by simp [F2]
  | a :: l, b :: m, h, 0 => trivial
  | a :: l, b :: m, h, i + 1 => ⟨h.1, F2.take h.2 i⟩
theorem F2.drop : ∀ {l : List ρ} {m : List β}, F2 P l m → ∀ i, F2 P (l.drop i) (m.drop i)
  | [], [], _, i => by simp [F2]
  | a :: l, b :: m, h, 0 => h
  | a :: l, b :: m, h, i + 1 => F2.drop h.2 i
theorem F2.filter {p : ρ → Bool} {q : β → Bool} (hpq : ∀ a b, P a b → p a = q b) : ∀ {l : List ρ} {m : List β}, F2 P l m → F2 P (l.filter p) (m.filter q)
  | [], [], _ => trivial
  | a :: l, b :: m, h => by
    have h1 := hpq _ _ h.1
    cases hq : q b
    · rw [List.filter_cons_of_neg (by rw [h1, hq]; simp), List.filter_cons_of_neg (by rw [hq]; simp)]; exact F2.filter hpq h.2
    · rw [List.filter_cons_of_pos (by rw [h1, hq]), List.filter_cons_of_pos hq]; exact ⟨h.1, F2.filter hpq h.2⟩
end
end Go.Proofs.Ytgdkgobplinelaa
