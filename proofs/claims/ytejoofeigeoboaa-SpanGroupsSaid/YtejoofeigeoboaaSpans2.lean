import Derived.Test.YtejoofeigeoboaaSpans1
import Derived.Test.YtejoofeigeoboaaP4
import Derived.Test.YtejoofeigeoboaaP9
import Derived.Test.YtejoofeigeoboaaP7
import Derived.Test.YtejoofeigeoboaaP10
/- What the reference's spans come to, in plain words. -/
namespace Go.Proofs.Ytejoofeigeoboaa.Pure
open Go.RowKit Go.Proofs.Ytejoofeigeoboaa Go.Proofs.Ytejoofeigeoboaa.P Go.Proofs.YtejoofeigeoboaaW.PrintWords Go.Proofs.YtejoofeigeoboaaW.PrintLast
set_option linter.unusedVariables false
set_option linter.unusedSimpArgs false
theorem rhas_loop (x : Int) (u : Int) (l : List Int) (hl : l.length < 8796093022208) (d : Nat) : ∀ (k n : Nat), l.length - n = d → n ≤ l.length → d < k →
    cenotaphref02_Has.l0 k x (n : Int) u l = some (decide (x ∈ l.drop n)) := by
  induction d with
  | zero =>
    intro k n hd hn hk
    obtain ⟨k, rfl⟩ : ∃ m, k = m + 1 := ⟨k - 1, by omega⟩
    simp only [cenotaphref02_Has.l0]
    rw [if_neg (by omega), List.drop_eq_nil_of_le (by omega)]; rfl
  | succ d ih =>
    intro k n hd hn hk
    obtain ⟨k, rfl⟩ : ∃ m, k = m + 1 := ⟨k - 1, by omega⟩
    simp only [cenotaphref02_Has.l0]
    rw [if_pos (by omega), if_pos (by omega), rd_int, drop_getD l 0 n (by omega)]
    by_cases h : l.getD n 0 = x
    · rw [if_pos h, h]; congr 1; symm; rw [decide_eq_true_eq]; simp
    · rw [if_neg h, wrap_nat (by omega), ih k (n + 1) (by omega) (by omega) (by omega)]
      congr 1
      rw [decide_eq_decide, List.mem_cons]
      exact ⟨Or.inr, fun e => e.resolve_left fun e => h e.symm⟩
theorem ref_has (u : Int) (l : List Int) (x : Int) (hl : l.length < 8796093022208) (k : Nat) (hk : l.length + 1 < k) : cenotaphref02_Has.f k u l x = some (decide (memS u l x)) := by
  obtain ⟨k, rfl⟩ : ∃ m, k = m + 1 := ⟨k - 1, by omega⟩
  have hloop := rhas_loop x u l hl l.length k 0 (by omega) (by omega) (by omega)
  unfold cenotaphref02_Has.f
  by_cases h1 : x ≥ 1
  · rw [if_pos h1]
    by_cases h2 : x ≤ u
    · rw [decide_eq_true h2]
      simp only [cenotaphref02_Has.j0]
      rw [if_pos trivial]
      congr 1; symm; rw [decide_eq_true_eq]
      exact Or.inl ⟨h1, h2⟩
    · rw [decide_eq_false h2]
      simp only [cenotaphref02_Has.j0]
      rw [if_neg (by simp)]
      refine hloop.trans ?_
      congr 1
      rw [decide_eq_decide]
      unfold memS
      exact ⟨Or.inr, fun e => e.elim (fun e => absurd e.2 h2) id⟩
  · rw [if_neg h1]
    simp only [cenotaphref02_Has.j0]
    rw [if_neg (by simp)]
    refine hloop.trans ?_
    congr 1
    rw [decide_eq_decide]
    unfold memS
    exact ⟨Or.inr, fun e => e.elim (fun e => absurd e.1 h1) id⟩
/-- A number is put where it belongs. -/
def insZ (n : Int) : List Int → List Int
  | [] => [n]
  | x :: t => if x > n then n :: x :: t else x :: insZ n t
theorem insZ_mem (n : Int) : ∀ (l : List Int) (m : Int), m ∈ insZ n l ↔ m ∈ l ∨ m = n
  | [], m => by simp [insZ]
  | x :: t, m => by
    unfold insZ
    split
    · rw [List.mem_cons]; exact Or.comm
    · rw [List.mem_cons, insZ_mem n t m, List.mem_cons, or_assoc]
theorem insZ_length (n : Int) : ∀ (l : List Int), (insZ n l).length = l.length + 1
  | [] => rfl
  | x :: t => by
    unfold insZ
    split
    · rfl
    · simp [insZ_length n t]
theorem insZ_sorted (n : Int) : ∀ (l : List Int), l.Pairwise (fun x y : Int => x < y) → n ∉ l → (insZ n l).Pairwise (fun x y : Int => x < y)
  | [], _, _ => List.pairwise_singleton _ _
  | x :: t, hs, hn => by
    have hs' := hs
    rw [List.pairwise_cons] at hs
    rw [List.mem_cons, not_or] at hn
    unfold insZ
    split
    · rename_i h
      rw [List.pairwise_cons]
      refine ⟨fun y hy => ?_, hs'⟩
      rcases List.mem_cons.mp hy with e | e
      · subst e; exact h
      · have := hs.1 y e; omega
    · rename_i h
      rw [List.pairwise_cons]
      refine ⟨fun y hy => ?_, insZ_sorted n t hs.2 hn.2⟩
      rcases (insZ_mem n t y).mp hy with e | e
      · exact hs.1 y e
      · subst e; omega
theorem radd_l1 (d : Nat) : ∀ (l : List Int) (u : Int) (k : Nat), l.length = d → l.length < 1000000 → 0 ≤ u → u ≤ 1048576 → l.Pairwise (fun x y : Int => x < y) → (∀ x ∈ l, u < x ∧ x ≤ 1048576) → d < k → cenotaphref02_Add.l1 k l u = some (foldZ u l) := by
  induction d with
  | zero =>
    intro l u k hd hl h0 h1 hs hm hk
    obtain ⟨k, rfl⟩ : ∃ m, k = m + 1 := ⟨k - 1, by omega⟩
    have : l = [] := List.eq_nil_of_length_eq_zero hd
    subst this
    simp only [cenotaphref02_Add.l1]
    rw [if_neg (by simp)]; rfl
  | succ d ih =>
    intro l u k hd hl h0 h1 hs hm hk
    obtain ⟨k, rfl⟩ : ∃ m, k = m + 1 := ⟨k - 1, by omega⟩
    cases l with
    | nil => simp at hd
    | cons x t =>
      simp only [List.length_cons] at hd hl
      have hx := hm x (by simp)
      rw [List.pairwise_cons] at hs
      simp only [cenotaphref02_Add.l1, List.length_cons]
      have hr : rd (x :: t) 0 = x := rfl
      rw [if_pos (by omega), if_pos (by omega), hr, wrap_id (by omega) (by omega)]
      unfold foldZ
      by_cases h : x = u + 1
      · rw [if_pos h, if_pos (by omega), if_pos (by omega), if_pos (by omega)]
        have e : (x :: t).drop (1 : Int).toNat = t := rfl
        rw [e, h]
        exact ih t (u + 1) k (by omega) (by omega) (by omega) (by omega) hs.2 (fun y hy => ⟨by have := hs.1 y hy; omega, (hm y (by simp [hy])).2⟩) (by omega)
      · rw [if_neg h, if_neg (by omega)]
        simp only [Option.bind_some, List.nil_append, List.length_nil, List.length_cons]
        rw [if_pos (by omega)]
theorem radd_l0t (x : Int) (u : Int) (e : List Int) (hl : e.length < 1000000) (r : Option (Int × List Int)) (d : Nat) : ∀ (k n : Nat) (acc : List Int), e.length - n = d → n ≤ e.length → acc.length < 2000000 + n →
    (∀ k', k - d - 2 ≤ k' → cenotaphref02_Add.l1 k' (acc ++ e.drop n) u = r) → d + 2 < k → cenotaphref02_Add.l0 k x acc true (n : Int) u e = r := by
  induction d with
  | zero =>
    intro k n acc hd hn ha hr hk
    obtain ⟨k, rfl⟩ : ∃ m, k = m + 2 := ⟨k - 2, by omega⟩
    simp only [cenotaphref02_Add.l0]
    rw [if_neg (by omega), if_pos trivial]
    simp only [cenotaphref02_Add.j2]
    have := hr k (by omega)
    rwa [List.drop_eq_nil_of_le (by omega), List.append_nil] at this
  | succ d ih =>
    intro k n acc hd hn ha hr hk
    obtain ⟨k, rfl⟩ : ∃ m, k = m + 1 := ⟨k - 1, by omega⟩
    simp only [cenotaphref02_Add.l0]
    rw [if_pos (by omega), if_pos trivial, if_pos (by omega), if_pos (by omega), rd_int, wrap_nat (by omega)]
    refine ih k (n + 1) _ (by omega) (by omega) (by simp; omega) (fun k' hk' => ?_) (by omega)
    rw [List.append_assoc, List.singleton_append, ← drop_getD e 0 n (by omega)]
    exact hr k' (by omega)
theorem radd_l0 (x : Int) (u : Int) (e : List Int) (hl : e.length < 1000000) (r : Option (Int × List Int)) (d : Nat) : ∀ (k n : Nat) (acc : List Int), e.length - n = d → n ≤ e.length → acc.length < 1000000 + n →
    (∀ k', k - d - 3 ≤ k' → cenotaphref02_Add.l1 k' (acc ++ insZ x (e.drop n)) u = r) → d + 3 < k → cenotaphref02_Add.l0 k x acc false (n : Int) u e = r := by
  induction d with
  | zero =>
    intro k n acc hd hn ha hr hk
    obtain ⟨k, rfl⟩ : ∃ m, k = m + 2 := ⟨k - 2, by omega⟩
    simp only [cenotaphref02_Add.l0]
    rw [if_neg (by omega), if_neg (by simp), if_pos (by omega)]
    simp only [cenotaphref02_Add.j2]
    have := hr k (by omega)
    rwa [List.drop_eq_nil_of_le (by omega)] at this
  | succ d ih =>
    intro k n acc hd hn ha hr hk
    obtain ⟨k, rfl⟩ : ∃ m, k = m + 1 := ⟨k - 1, by omega⟩
    have hd' := drop_getD e 0 n (by omega)
    simp only [cenotaphref02_Add.l0]
    rw [if_pos (by omega), if_neg (by simp), if_pos (by omega), rd_int, wrap_nat (by omega)]
    by_cases h : e.getD n 0 > x
    · rw [if_pos h, if_pos (by omega), Option.bind_some, if_pos (by simp; omega)]
      refine radd_l0t x u e hl r d k (n + 1) _ (by omega) (by omega) (by simp; omega) (fun k' hk' => ?_) (by omega)
      have := hr k' (by omega)
      rw [hd', insZ, if_pos h] at this
      simpa using this
    · rw [if_neg h, if_pos (by omega)]
      refine ih k (n + 1) _ (by omega) (by omega) (by simp; omega) (fun k' hk' => ?_) (by omega)
      have := hr k' (by omega)
      rw [hd', insZ, if_neg h] at this
      simpa using this
theorem ref_add (u : Int) (e : List Int) (n : Int) (h : OkS u e) (hl : e.length < 500000) (k : Nat) (hk : 2 * e.length + 10 < k) : cenotaphref02_Add.f k u e n = some (addS u e n) := by
  obtain ⟨k, rfl⟩ : ∃ m, k = m + 1 := ⟨k - 1, by omega⟩
  have same : cenotaphref02_Add.j0 (k + 1) n true u e = some (u, e) := by
    simp only [cenotaphref02_Add.j0, Option.bind_some, List.nil_append, List.length_nil]
    rw [if_pos trivial, if_pos (by omega)]
  unfold cenotaphref02_Add.f addS
  by_cases h1 : n < 1
  · rw [if_pos h1, if_pos (Or.inl h1), same]
  · rw [if_neg h1]
    by_cases h2 : n > 1048576
    · rw [if_pos h2, if_pos (Or.inr h2), same]
    · rw [if_neg h2, if_neg (by omega), ref_has u e n (by omega) _ (by omega), Option.bind_some]
      obtain ⟨a, b, c⟩ := addS_spec h (by omega : 1 ≤ n) (by omega : n ≤ 1048576)
      by_cases hm : memS u e n
      · rw [decide_eq_true hm, same]
        obtain ⟨x, y⟩ := okS_unique h a fun m => ⟨fun hh => (b m).mpr (Or.inl hh), fun hh => ((b m).mp hh).elim id fun e => e ▸ hm⟩
        rw [show unionS u e 0 [n] = (u, e) from Prod.ext x.symm y.symm]
      · rw [decide_eq_false hm]
        simp only [cenotaphref02_Add.j0]
        rw [if_neg (by simp)]
        have hn1 : n ∉ e := fun hh => hm (Or.inr hh)
        have hn2 : u < n := by
          apply Classical.byContradiction; intro hh
          exact hm (Or.inl ⟨by omega, by omega⟩)
        have hmem : ∀ x ∈ insZ n e, u < x ∧ x ≤ 1048576 := by
          intro x hx
          rcases (insZ_mem n e x).mp hx with hx | hx
          · have := h.gap x hx; have := h.hi x hx; omega
          · omega
        have ha := h.lo; have hb := h.up
        have hf := foldZ_spec (insZ n e) u ha hb (insZ_sorted n e h.sort hn1) fun x hx => by have := hmem x hx; omega
        have heq : foldZ u (insZ n e) = unionS u e 0 [n] := by
          obtain ⟨x, y⟩ := okS_unique hf.1 a fun m => ((hf.2.1 m).trans (by unfold memS; rw [insZ_mem]; constructor; (rintro (p | p | p); exact Or.inl (Or.inl p); exact Or.inl (Or.inr p); exact Or.inr p); (rintro ((p | p) | p); exact Or.inl p; exact Or.inr (Or.inl p); exact Or.inr (Or.inr p)))).trans (b m).symm
          exact Prod.ext x y
        refine radd_l0 n u e (by omega) _ e.length k 0 [] (by omega) (by omega) (by simp) (fun k' hk' => ?_) (by omega)
        rw [List.nil_append, List.drop_zero, ← heq]
        exact radd_l1 _ _ u k' rfl (by rw [insZ_length]; omega) ha hb (insZ_sorted n e h.sort hn1) hmem (by rw [insZ_length]; omega)
end Go.Proofs.Ytejoofeigeoboaa.Pure
