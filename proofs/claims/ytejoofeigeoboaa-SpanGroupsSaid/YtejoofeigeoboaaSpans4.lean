import Derived.Test.YtejoofeigeoboaaSpans3
import Derived.Test.YtejoofeigeoboaaP1
import Derived.Test.YtejoofeigeoboaaP2
import Derived.Test.YtejoofeigeoboaaP7
/- What the laws on spans share: the words there and back, the told sum, and how many numbers there are up to one. -/
namespace Go.Proofs.Ytejoofeigeoboaa.Pure
open Go.RowKit Go.Proofs.Ytejoofeigeoboaa Go.Proofs.Ytejoofeigeoboaa.P Go.Proofs.YtejoofeigeoboaaW.PrintWords Go.Proofs.YtejoofeigeoboaaW.PrintLast
set_option linter.unusedVariables false
set_option linter.unusedSimpArgs false
theorem to_ok (u : Int) (l : List Int) (hl : l.length < 1000000) : cenotaphlaw02_To.f u l = some (u, l) := by
  simp only [cenotaphlaw02_To.f, Option.bind_some, List.length_nil, List.nil_append]
  rw [if_pos (by omega)]
theorem from_ok (u : Int) (l : List Int) (hl : l.length < 1000000) : cenotaphlaw02_From.f u l = some (u, l) := by
  simp only [cenotaphlaw02_From.f, Option.bind_some, List.length_nil, List.nil_append]
  rw [if_pos (by omega)]
theorem first_ok (n : Int) : span_First.f n = some (max 0 (min n 1048576), []) := by
  unfold span_First.f
  rw [mx_max, mn_min]
theorem told_ok (k : Nat) (hk : 20 < k) : cenotaphlaw02_told.f k = some true := by
  have h1 : OkS 1 [3, 4] := ⟨by decide, by decide, by decide, by decide, by decide⟩
  obtain ⟨a, b, c⟩ := addS_ok h1 2
  have h4 : OkS 4 [] := OkS.nil (by decide) (by decide)
  obtain ⟨e1, e2⟩ := okS_unique a h4 fun m => (b m).trans (by
    unfold memS
    simp only [List.mem_cons, List.not_mem_nil, or_false]
    omega)
  have e : addS 1 [3, 4] 2 = (4, []) := Prod.ext e1 e2
  unfold cenotaphlaw02_told.f
  rw [span_add 1 [3, 4] 2 h1 (by decide) k (by simp; omega), e, Option.bind_some]
  have h2 := span_has 4 [] 4 h4 (by decide) k (by simp; omega)
  have h3 : span_Count.f 4 [] = some 4 := span_count 4 [] h4 (by decide)
  have h5 : span_Top.f 9 [] = some 9 := span_top 9 [] (by decide)
  show (if (4 : Int) = 4 then _ else _) = _
  rw [if_pos rfl, if_pos (by rfl), h2, Option.bind_some, if_pos (by decide), h3, Option.bind_some, if_pos rfl, first_ok, Option.bind_some]
  show (span_Top.f (max 0 (min 9 1048576)) []).bind _ = _
  rw [show max 0 (min (9 : Int) 1048576) = 9 from rfl, h5]
  rfl
/-- How many of the numbers from 1 to n are there. -/
def cntS (u : Int) (e : List Int) (n : Nat) : Int := min u (n : Int) + ((e.filter fun x => decide (x ≤ (n : Int))).length : Int)
theorem filter_succ (n : Nat) : ∀ (e : List Int), e.Pairwise (fun x y : Int => x < y) →
    ((e.filter fun x => decide (x ≤ ((n + 1 : Nat) : Int))).length : Int) = ((e.filter fun x => decide (x ≤ (n : Int))).length : Int) + (if ((n + 1 : Nat) : Int) ∈ e then 1 else 0)
  | [], _ => by simp
  | x :: t, hs => by
    rw [List.pairwise_cons] at hs
    have ih := filter_succ n t hs.2
    by_cases h1 : x ≤ (n : Int)
    · rw [List.filter_cons_of_pos (by rw [decide_eq_true_eq]; omega), List.filter_cons_of_pos (by rw [decide_eq_true_eq]; exact h1), List.length_cons, List.length_cons]
      have hm : ((n + 1 : Nat) : Int) ∈ x :: t ↔ ((n + 1 : Nat) : Int) ∈ t := by
        rw [List.mem_cons]
        exact ⟨fun h => h.elim (fun h => by omega) id, Or.inr⟩
      by_cases hc : ((n + 1 : Nat) : Int) ∈ t
      · rw [if_pos hc] at ih; rw [if_pos (hm.mpr hc)]; omega
      · rw [if_neg hc] at ih; rw [if_neg (fun h => hc (hm.mp h))]; omega
    · have h00 : (x :: t).filter (fun x => decide (x ≤ (n : Int))) = t.filter (fun x => decide (x ≤ (n : Int))) := List.filter_cons_of_neg (by rw [decide_eq_true_eq]; exact h1)
      rw [h00]
      have h0 : t.filter (fun x => decide (x ≤ (n : Int))) = [] := by
        rw [List.filter_eq_nil_iff]
        intro y hy
        have := hs.1 y hy
        rw [decide_eq_true_eq]; omega
      by_cases h2 : x = ((n + 1 : Nat) : Int)
      · rw [List.filter_cons_of_pos (by rw [decide_eq_true_eq]; omega), List.length_cons, if_pos (by rw [h2]; simp), h0]
        have h3 : t.filter (fun x => decide (x ≤ ((n + 1 : Nat) : Int))) = [] := by
          rw [List.filter_eq_nil_iff]
          intro y hy
          have := hs.1 y hy
          rw [decide_eq_true_eq]; omega
        rw [h3]; simp
      · rw [List.filter_cons_of_neg (by rw [decide_eq_true_eq]; omega)]
        have h3 : t.filter (fun x => decide (x ≤ ((n + 1 : Nat) : Int))) = [] := by
          rw [List.filter_eq_nil_iff]
          intro y hy
          have := hs.1 y hy
          rw [decide_eq_true_eq]; omega
        have h4 : ((n + 1 : Nat) : Int) ∉ x :: t := by
          rw [List.mem_cons, not_or]
          exact ⟨fun h => h2 h.symm, fun h => by have := hs.1 _ h; omega⟩
        rw [h3, h0, if_neg h4]; simp
theorem cntS_zero {u : Int} {e : List Int} (h : OkS u e) : cntS u e 0 = 0 := by
  have h0 := h.lo
  unfold cntS
  have : e.filter (fun x => decide (x ≤ ((0 : Nat) : Int))) = [] := by
    rw [List.filter_eq_nil_iff]
    intro y hy
    have := h.gap y hy
    rw [decide_eq_true_eq]; omega
  rw [this]; simp; omega
theorem cntS_succ {u : Int} {e : List Int} (h : OkS u e) (n : Nat) : cntS u e (n + 1) = cntS u e n + (if memS u e ((n + 1 : Nat) : Int) then 1 else 0) := by
  have h0 := h.lo
  unfold cntS
  rw [filter_succ n e h.sort]
  by_cases h1 : ((n + 1 : Nat) : Int) ∈ e
  · have := h.gap _ h1
    rw [if_pos h1, if_pos (show memS u e ((n + 1 : Nat) : Int) from Or.inr h1)]
    omega
  · rw [if_neg h1]
    by_cases h2 : ((n + 1 : Nat) : Int) ≤ u
    · rw [if_pos (show memS u e ((n + 1 : Nat) : Int) from Or.inl ⟨by omega, h2⟩)]; omega
    · rw [if_neg (show ¬ memS u e ((n + 1 : Nat) : Int) from fun hm => hm.elim (fun x => h2 x.2) h1)]; omega
theorem cntS_all {u : Int} {e : List Int} (h : OkS u e) (n : Nat) (hm : ∀ m, memS u e m → m ≤ (n : Int)) : cntS u e n = u + e.length := by
  have h0 := h.lo
  unfold cntS
  have h1 : u ≤ (n : Int) := by
    by_cases hu : 1 ≤ u
    · exact hm u (Or.inl ⟨hu, Int.le_refl _⟩)
    · omega
  have h2 : e.filter (fun x => decide (x ≤ (n : Int))) = e := by
    rw [List.filter_eq_self]
    intro y hy
    rw [decide_eq_true_eq]; exact hm y (Or.inr hy)
  rw [h2]; omega
theorem length_between : ∀ (l : List Int) (a b : Int), l.Pairwise (fun x y : Int => x < y) → (∀ x ∈ l, a < x ∧ x ≤ b) → a ≤ b → (l.length : Int) ≤ b - a
  | [], a, b, _, _, h => by simp; omega
  | x :: t, a, b, hs, hm, h => by
    rw [List.pairwise_cons] at hs
    have hx := hm x (by simp)
    have := length_between t x b hs.2 (fun y hy => ⟨hs.1 y hy, (hm y (by simp [hy])).2⟩) hx.2
    simp only [List.length_cons]; omega
end Go.Proofs.Ytejoofeigeoboaa.Pure
