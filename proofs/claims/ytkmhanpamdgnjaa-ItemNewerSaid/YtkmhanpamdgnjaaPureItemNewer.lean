/- ItemNewer: of all versions it is told whether one wins; of two that differ in stamp or name just one does, and of three it goes through. No condition beyond the statement's own. -/
import Derived.Test.YtkmhanpamdgnjaaOrdB
import Derived.Test.YtkmhanpamdgnjaaIds2
import Derived.Test.YtkmhanpamdgnjaaP6
import Derived.Test.YtkmhanpamdgnjaaGoalItemNewer
namespace Go.Proofs.Ytkmhanpamdgnjaa.Pure
open Go.RowKit Go.Proofs.Ytkmhanpamdgnjaa Go.Proofs.Ytkmhanpamdgnjaa.P Go.Proofs.YtkmhanpamdgnjaaW.PrintWords Go.Proofs.YtkmhanpamdgnjaaW.PrintLast
set_option linter.unusedVariables false
/-- Does one win? -/
def newZ (i : ByteArray) (s : Int) (j : ByteArray) (t : Int) : Bool := if s = t then decide (cmpB i j > 0) else decide (s > t)
theorem item_newer (i : ByteArray) (q s : Int) (j : ByteArray) (p t : Int) : item_Newer.f i q s j p t = some (newZ i s j t) := by
  rw [item_Newer.f, newZ]
  by_cases h : s = t
  · rw [if_pos h, if_pos h]; rfl
  · rw [if_neg h, if_neg h]
theorem ref_newer (i : ByteArray) (q s : Int) (j : ByteArray) (p t : Int) (k : Nat) (hi : i.size ≤ 9223372036854775807) (hk : 2 * i.size + 2 ≤ k) : cenotaphref07_Newer.f k i q s j p t = some (newZ i s j t) := by
  rw [cenotaphref07_Newer.f, newZ]
  by_cases h : s = t
  · rw [if_neg (by omega), if_pos h, if_pos h, ref_compare i j k hi hk]; rfl
  · rw [if_neg h]
    by_cases h2 : s > t
    · rw [if_pos h2, if_neg h, decide_eq_true h2]
    · rw [if_neg h2, if_neg h, decide_eq_false h2]
theorem newZ_not_both (i : ByteArray) (s : Int) (j : ByteArray) (t : Int) (h : newZ i s j t = true) : newZ j t i s = false := by
  rw [newZ] at h ⊢
  by_cases e : s = t
  · rw [if_pos e] at h
    rw [if_pos e.symm, cmpB_neg]
    simp only [decide_eq_true_eq, decide_eq_false_iff_not] at h ⊢
    omega
  · rw [if_neg e] at h
    rw [if_neg (Ne.symm e)]
    simp only [decide_eq_true_eq, decide_eq_false_iff_not] at h ⊢
    omega
theorem newZ_neither (i : ByteArray) (s : Int) (j : ByteArray) (t : Int) (h : newZ i s j t = false) (h2 : newZ j t i s = false) : s = t ∧ i = j := by
  rw [newZ] at h h2
  by_cases e : s = t
  · rw [if_pos e] at h
    rw [if_pos e.symm, cmpB_neg] at h2
    simp only [decide_eq_false_iff_not] at h h2
    exact ⟨e, cmpB_zero.mp (by omega)⟩
  · rw [if_neg e] at h
    rw [if_neg (Ne.symm e)] at h2
    simp only [decide_eq_false_iff_not] at h h2
    omega
theorem newZ_trans (i : ByteArray) (s : Int) (j : ByteArray) (t : Int) (l : ByteArray) (u : Int) (h : newZ i s j t = true) (h2 : newZ j t l u = true) : newZ i s l u = true := by
  rw [newZ] at h h2 ⊢
  by_cases e : s = t
  · subst e
    rw [if_pos rfl] at h
    by_cases e2 : s = u
    · subst e2
      rw [if_pos rfl] at h2 ⊢
      simp only [decide_eq_true_eq] at h h2 ⊢
      exact gtB.mpr (toB.trans _ _ _ (gtB.mp h2) (gtB.mp h))
    · rw [if_neg e2] at h2 ⊢
      exact h2
  · rw [if_neg e] at h
    simp only [decide_eq_true_eq] at h
    by_cases e2 : t = u
    · subst e2
      rw [if_neg e]
      simpa using h
    · rw [if_neg e2] at h2
      simp only [decide_eq_true_eq] at h2
      rw [if_neg (by omega)]
      simp only [decide_eq_true_eq]
      omega
theorem ItemNewer : cenotaphlaw07_ItemNewer.Pure := by
  intro y0 y1 y2 h0 h1 h2
  obtain ⟨i0, q0, s0⟩ := y0
  obtain ⟨i1, q1, s1⟩ := y1
  obtain ⟨i2, q2, s2⟩ := y2
  have hi : i0.size ≤ 9223372036854775807 := h0.1
  refine ⟨2 * i0.size + 10, ?_⟩
  dsimp only
  have ht : cenotaphlaw07_told.f = some true := rfl
  have fin : ∀ (a b : Bool), b = false → (a = true → newZ i1 s1 i2 s2 = true → newZ i0 s0 i2 s2 = true) → cenotaphlaw07_ItemNewer.j0 (2 * i0.size + 9 + 1) a b i0 q0 s0 i1 q1 s1 i2 q2 s2 = some true := by
    intro a b hb hab
    subst hb
    simp only [cenotaphlaw07_ItemNewer.j0, cenotaphlaw07_Ver.f, Option.bind_some, item_newer]
    rw [if_neg (by decide)]
    cases a with
    | false => rw [if_neg (by decide)]
    | true =>
      rw [if_pos rfl]
      by_cases hc : newZ i1 s1 i2 s2 = true
      · rw [if_pos hc, hab rfl hc]
      · rw [if_neg hc]
  simp only [cenotaphlaw07_ItemNewer.f, cenotaphlaw07_Ver.f, Option.bind_some, item_newer, ht]
  rw [if_pos trivial, ref_newer i0 q0 s0 i1 q1 s1 _ hi (by omega), Option.bind_some, if_neg (by simp)]
  cases hx : newZ i0 s0 i1 s1 with
  | true =>
    rw [if_pos rfl, newZ_not_both _ _ _ _ hx, if_neg (by decide)]
    exact fin true false rfl (fun _ hc => newZ_trans _ _ _ _ _ _ hx hc)
  | false =>
    rw [if_neg (by decide)]
    cases hy : newZ i1 s1 i0 s0 with
    | true =>
      rw [if_pos rfl]
      exact fin false false rfl (fun h => by cases h)
    | false =>
      rw [if_neg (by decide)]
      obtain ⟨e1, e2⟩ := newZ_neither _ _ _ _ hx hy
      rw [if_pos e1]
      exact fin false _ (by rw [e2]; simp) (fun h => by cases h)
end Go.Proofs.Ytkmhanpamdgnjaa.Pure
