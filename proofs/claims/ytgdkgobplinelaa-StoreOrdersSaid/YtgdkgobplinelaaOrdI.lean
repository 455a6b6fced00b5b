import Derived.Test.YtgdkgobplinelaaKeys
import Derived.Test.YtgdkgobplinelaaOrdZ
/- A search by halves among rows that rise by a whole number. No program in sight. -/
namespace Go.Proofs.Ytgdkgobplinelaa
/-- Two numbers' order, as Go tells it. -/
def cmpI (a b : Int) : Int := if a < b then -1 else if a > b then 1 else 0
theorem cmpI_neg {a b : Int} : cmpI a b < 0 ↔ a < b := by unfold cmpI; split <;> (try split) <;> omega
theorem cmpI_zero {a b : Int} : cmpI a b = 0 ↔ a = b := by unfold cmpI; split <;> (try split) <;> omega
/-- A search by halves finds the place under a number. -/
theorem find_specI {α : Type} {key : α → Int} {l : List α} (d : α) (h : KS (fun x y : Int => x < y) key l) (a : Int) :
    (bsB (fun i => cmpI (key (l.getD i d)) a) l.length = true → ∃ hi : bsN (fun i => cmpI (key (l.getD i d)) a) l.length < l.length, key l[bsN (fun i => cmpI (key (l.getD i d)) a) l.length] = a ∧ getM key a l = some l[bsN (fun i => cmpI (key (l.getD i d)) a) l.length]) ∧
    (bsB (fun i => cmpI (key (l.getD i d)) a) l.length = false → getM key a l = none ∧ bsN (fun i => cmpI (key (l.getD i d)) a) l.length ≤ l.length ∧
      (∀ x ∈ l.take (bsN (fun i => cmpI (key (l.getD i d)) a) l.length), key x < a) ∧ ∀ x ∈ l.drop (bsN (fun i => cmpI (key (l.getD i d)) a) l.length), a < key x) := by
  generalize hc : (fun i => cmpI (key (l.getD i d)) a) = c
  have hcv : ∀ i (hi : i < l.length), c i = cmpI (key l[i]) a := by
    intro i hi; rw [← hc]; show cmpI (key (l.getD i d)) a = _; rw [getD_eq hi]
  have hpw := List.pairwise_iff_getElem.mp h
  have hm : ∀ i j, i < j → j < l.length → c j < 0 → c i < 0 := by
    intro i j hij hj hcj
    rw [hcv j hj, cmpI_neg] at hcj
    rw [hcv i (by omega), cmpI_neg]
    have := hpw i j (by omega) hj hij
    omega
  have hz : ∀ i j, i < j → j < l.length → c j = 0 → c i < 0 := by
    intro i j hij hj hcj
    rw [hcv j hj, cmpI_zero] at hcj
    rw [hcv i (by omega), cmpI_neg]
    have := hpw i j (by omega) hj hij
    omega
  obtain ⟨s1, s2, s3⟩ := bsN_spec c l.length hm
  constructor
  · intro hb
    have hb' := hb
    unfold bsB at hb'
    rw [Bool.and_eq_true, decide_eq_true_eq, decide_eq_true_eq] at hb'
    have hk : key l[bsN c l.length] = a := by
      have := hb'.2
      rw [hcv _ hb'.1] at this
      exact cmpI_zero.mp this
    exact ⟨hb'.1, hk, (getM_some toZ h a _).mpr ⟨List.getElem_mem _, hk⟩⟩
  · intro hb
    have hb' : ¬ ∃ i, i < l.length ∧ c i = 0 := by
      rw [← bsB_iff c l.length hm hz, hb]; simp
    refine ⟨?_, s1, ?_, ?_⟩
    · rw [getM_none]
      intro x hx e
      obtain ⟨i, hi, e2⟩ := List.mem_iff_getElem.mp hx
      exact hb' ⟨i, hi, by rw [hcv i hi, e2, e]; exact cmpI_zero.mpr rfl⟩
    · intro x hx
      obtain ⟨i, hi, e⟩ := List.mem_iff_getElem.mp hx
      rw [List.length_take] at hi
      rw [List.getElem_take] at e
      have := s2 i (by omega)
      rw [hcv i (by omega), e, cmpI_neg] at this
      exact this
    · intro x hx
      obtain ⟨i, hi, e⟩ := List.mem_iff_getElem.mp hx
      rw [List.length_drop] at hi
      rw [List.getElem_drop] at e
      have h1 := s3 (bsN c l.length + i) (by omega) (by omega)
      have h2 : c (bsN c l.length + i) ≠ 0 := fun h => hb' ⟨_, by omega, h⟩
      rw [hcv _ (by omega), e] at h1 h2
      rw [cmpI_neg] at h1
      rw [Ne, cmpI_zero] at h2
      omega
end Go.Proofs.Ytgdkgobplinelaa
