import Derived.Test.YtejoofeigeoboaaTl
import Derived.Test.YtejoofeigeoboaaSpanZ
import Derived.Test.YtejoofeigeoboaaP1
import Derived.Test.YtejoofeigeoboaaP5
import Derived.Test.YtejoofeigeoboaaP6
import Derived.Test.YtejoofeigeoboaaP3
/- What the program's spans come to, in plain words. -/
namespace Go.Proofs.Ytejoofeigeoboaa.Pure
open Go.RowKit Go.Proofs.Ytejoofeigeoboaa Go.Proofs.Ytejoofeigeoboaa.P Go.Proofs.YtejoofeigeoboaaW.PrintWords Go.Proofs.YtejoofeigeoboaaW.PrintLast
set_option linter.unusedVariables false
set_option linter.unusedSimpArgs false
theorem clone_z (l : List Int) (h : l.length < 8796093022208) : slices_Clone_int_int.f l = some l := by
  simp only [slices_Clone_int_int.f, Option.bind_some, List.length_nil, List.nil_append]
  rw [if_pos (by omega)]
theorem folded_loop (l : List Int) (hl : l.length < 8796093022208) (hm : ∀ x ∈ l, x ≤ 1048576) (d : Nat) : ∀ (k n : Nat) (u : Int), l.length - n = d → n ≤ l.length → 0 ≤ u → u ≤ 1048576 → d < k →
    span_folded.l0 k u l (n : Int) = some (foldZ u (l.drop n)) := by
  induction d with
  | zero =>
    intro k n u hd hn h0 h1 hk
    obtain ⟨k, rfl⟩ : ∃ m, k = m + 1 := ⟨k - 1, by omega⟩
    simp only [span_folded.l0]
    rw [if_neg (by omega), if_pos (by omega), if_pos (by omega), Int.toNat_natCast, clone_z _ (by rw [List.length_drop]; omega), List.drop_eq_nil_of_le (by omega)]
    rfl
  | succ d ih =>
    intro k n u hd hn h0 h1 hk
    obtain ⟨k, rfl⟩ : ∃ m, k = m + 1 := ⟨k - 1, by omega⟩
    have hlt : n < l.length := by omega
    have hx := hm _ (getD_memZ hlt)
    simp only [span_folded.l0]
    rw [if_pos (by omega), if_pos (by omega), rd_int, wrap_id (by omega) (by omega), drop_getD l 0 n hlt]
    unfold foldZ
    by_cases hc : l.getD n 0 ≤ u + 1
    · rw [if_pos hc, if_pos hc, wrap_nat (by omega)]
      exact ih k (n + 1) _ (by omega) (by omega) (by unfold mx; split <;> omega) (by unfold mx; split <;> omega) (by omega)
    · rw [if_neg hc, if_neg hc, if_pos (by omega), Int.toNat_natCast, clone_z _ (by rw [List.length_drop]; omega), Option.bind_some, drop_getD l 0 n hlt]
theorem folded_ok (u : Int) (l : List Int) (hl : l.length < 8796093022208) (hm : ∀ x ∈ l, x ≤ 1048576) (h0 : 0 ≤ u) (h1 : u ≤ 1048576) (k : Nat) (hk : l.length < k) : span_folded.f k u l = some (foldZ u l) := by
  have := folded_loop l hl hm l.length k 0 u (by omega) (by omega) h0 h1 hk
  simpa [span_folded.f] using this
theorem span_union (u1 u2 : Int) (e1 e2 : List Int) (h1 : OkS u1 e1) (h2 : OkS u2 e2) (hl : e1.length + e2.length < 8796093022208) (k : Nat) (hk : e1.length + e2.length < k) : span_Union.f k u1 e1 u2 e2 = some (unionS u1 e1 u2 e2) := by
  unfold span_Union.f
  have ha := h1.lo; have hb := h1.up; have hc := h2.lo; have hd := h2.up
  have hlen := unionZ_length (e1 ++ e2)
  rw [List.length_append] at hlen
  rw [if_pos hl]
  refine folded_ok _ _ (by omega) ?_ (by unfold mx; split <;> omega) (by unfold mx; split <;> omega) k (by omega)
  intro x hx
  rw [mem_unionZ, List.mem_append] at hx
  rcases hx with hx | hx
  · exact h1.hi x hx
  · exact h2.hi x hx
theorem one_ok {n : Int} (h0 : 2 ≤ n) (h1 : n ≤ 1048576) : OkS 0 [n] := ⟨by omega, by omega, List.pairwise_singleton _ _, by intro x hx; rw [List.mem_singleton] at hx; omega, by intro x hx; rw [List.mem_singleton] at hx; omega⟩
/-- A number more, if it may be one. -/
def addS (u : Int) (e : List Int) (n : Int) : Int × List Int := if n < 1 ∨ n > 1048576 then (u, e) else unionS u e 0 [n]
theorem addS_ok {u : Int} {e : List Int} (h : OkS u e) (n : Int) :
    OkS (addS u e n).1 (addS u e n).2 ∧ (∀ m, memS (addS u e n).1 (addS u e n).2 m ↔ memS u e m ∨ (m = n ∧ 1 ≤ n ∧ n ≤ 1048576)) ∧ (addS u e n).2.length ≤ e.length + 1 := by
  unfold addS
  by_cases hc : n < 1 ∨ n > 1048576
  · rw [if_pos hc]
    refine ⟨h, fun m => ⟨Or.inl, fun hm => ?_⟩, by simp⟩
    rcases hm with hm | hm
    · exact hm
    · omega
  · rw [if_neg hc]
    obtain ⟨a, b, c⟩ := addS_spec h (by omega : 1 ≤ n) (by omega : n ≤ 1048576)
    refine ⟨a, fun m => (b m).trans ?_, c⟩
    constructor
    · rintro (x | x)
      · exact Or.inl x
      · exact Or.inr ⟨x, by omega, by omega⟩
    · rintro (x | x)
      · exact Or.inl x
      · exact Or.inr x.1
theorem span_add (u : Int) (e : List Int) (n : Int) (h : OkS u e) (hl : e.length < 1000000) (k : Nat) (hk : e.length + 3 < k) : span_Add.f k u e n = some (addS u e n) := by
  obtain ⟨k, rfl⟩ : ∃ m, k = m + 1 := ⟨k - 1, by omega⟩
  unfold span_Add.f addS
  by_cases h1 : n < 1
  · rw [if_pos h1, if_pos (Or.inl h1)]
    simp only [span_Add.j0]
    rw [if_pos trivial, clone_z _ (by omega), Option.bind_some]
  · rw [if_neg h1]
    by_cases h2 : n > 1048576
    · rw [decide_eq_true h2, if_pos (Or.inr h2)]
      simp only [span_Add.j0]
      rw [if_pos trivial, clone_z _ (by omega), Option.bind_some]
    · rw [decide_eq_false h2, if_neg (by omega)]
      simp only [span_Add.j0]
      rw [if_neg (by simp)]
      have ha := h.lo; have hb := h.up
      have hf : span_Union.f k u e 0 [n] = some (unionS u e 0 [n]) := by
        unfold span_Union.f
        have hlen := unionZ_length (e ++ [n])
        rw [List.length_append, List.length_singleton] at hlen
        rw [if_pos (by rw [List.length_singleton]; omega)]
        refine folded_ok _ _ (by omega) ?_ (by unfold mx; split <;> omega) (by unfold mx; split <;> omega) k (by omega)
        intro x hx
        rw [mem_unionZ, List.mem_append, List.mem_singleton] at hx
        rcases hx with hx | hx
        · exact h.hi x hx
        · omega
      rw [hf, Option.bind_some]
theorem equal_loop (a b : List Int) (hl : a.length = b.length) (hs : a.length < 8796093022208) (d : Nat) : ∀ (k n : Nat), a.length - n = d → n ≤ a.length → d < k →
    slices_Equal_int_int.l0 k a b (a.length : Int) (n : Int) = some (decide (a.drop n = b.drop n)) := by
  induction d with
  | zero =>
    intro k n hd hn hk
    obtain ⟨k, rfl⟩ : ∃ m, k = m + 1 := ⟨k - 1, by omega⟩
    simp only [slices_Equal_int_int.l0]
    rw [if_neg (by omega), List.drop_eq_nil_of_le (by omega), List.drop_eq_nil_of_le (by omega)]; rfl
  | succ d ih =>
    intro k n hd hn hk
    obtain ⟨k, rfl⟩ : ∃ m, k = m + 1 := ⟨k - 1, by omega⟩
    simp only [slices_Equal_int_int.l0]
    rw [if_pos (by omega), if_pos (by omega), if_pos (by omega), if_pos (by omega), rd_int, rd_int, drop_getD a 0 n (by omega), drop_getD b 0 n (by omega)]
    by_cases h : a.getD n 0 = b.getD n 0
    · rw [if_pos h, wrap_nat (by omega), ih k (n + 1) (by omega) (by omega) (by omega), h]
      congr 1
      rw [decide_eq_decide]; simp
    · rw [if_neg h]
      congr 1
      symm
      rw [decide_eq_false_iff_not]
      intro e
      exact h (List.cons.inj e).1
theorem equal_ok (a b : List Int) (hs : a.length < 8796093022208) (k : Nat) (hk : a.length < k) : slices_Equal_int_int.f k a b = some (decide (a = b)) := by
  unfold slices_Equal_int_int.f
  by_cases h : a.length = b.length
  · rw [if_pos (by omega)]
    exact equal_loop a b h hs a.length k 0 (by omega) (by omega) hk
  · rw [if_neg (by omega)]
    congr 1
    symm
    rw [decide_eq_false_iff_not]
    intro e; subst e; exact h rfl
theorem span_same (u1 u2 : Int) (e1 e2 : List Int) (hs : e1.length < 8796093022208) (k : Nat) (hk : e1.length < k) : span_Same.f k u1 e1 u2 e2 = some (decide (u1 = u2 ∧ e1 = e2)) := by
  unfold span_Same.f
  by_cases h : u1 = u2
  · rw [if_pos h, equal_ok _ _ hs k hk, Option.bind_some]
    congr 1
    rw [decide_eq_decide]; simp [h]
  · rw [if_neg h]
    congr 1
    symm
    rw [decide_eq_false_iff_not]
    exact fun e => h e.1
/-- Is all of the one in the other? -/
theorem span_within (u1 u2 : Int) (e1 e2 : List Int) (h1 : OkS u1 e1) (h2 : OkS u2 e2) (hl : e1.length + e2.length < 1000000) (k : Nat) (hk : e1.length + e2.length < k) :
    ∃ b, span_Within.f k u1 e1 u2 e2 = some b ∧ (b = true ↔ ∀ n, memS u1 e1 n → memS u2 e2 n) := by
  obtain ⟨a, b, c⟩ := unionS_spec h1 h2
  unfold span_Within.f
  rw [span_union _ _ _ _ h1 h2 (by omega) k hk, Option.bind_some, span_same _ _ _ _ (by omega) k (by omega), Option.bind_some]
  refine ⟨_, rfl, ?_⟩
  rw [decide_eq_true_eq]
  constructor
  · rintro ⟨e1', e2'⟩ n hn
    have := (b n).mpr (Or.inl hn)
    rwa [e1', e2'] at this
  · intro h
    exact okS_unique a h2 fun n => (b n).trans ⟨fun x => x.elim (h n) id, Or.inr⟩
theorem less_ok (a b : Int) : cmp_Less_int.f a b = some (decide (a < b)) := by
  simp [cmp_Less_int.f, cmp_isNaN_int.f]
theorem search_loop (l : List Int) (x : Int) (hl : l.length < 4611686018427387904) : ∀ (f i j : Nat), i ≤ j → j ≤ l.length → j - i < f → ∀ k, f < k →
    slices_BinarySearch_int_int.l0 k l x (l.length : Int) (i : Int) (j : Int) = some (((bsI (fun m => l.getD m 0 - x) f i j : Nat) : Int), decide (bsI (fun m => l.getD m 0 - x) f i j < l.length ∧ l.getD (bsI (fun m => l.getD m 0 - x) f i j) 0 - x = 0))
  | 0, i, j, hij, hj, hf, k, hk => absurd hf (by omega)
  | f + 1, i, j, hij, hj, hf, k, hk => by
    obtain ⟨k, rfl⟩ : ∃ m, k = m + 1 := ⟨k - 1, by omega⟩
    simp only [slices_BinarySearch_int_int.l0]
    unfold bsI
    by_cases h : i < j
    · have e1 : wrap64 ((i : Int) + (j : Int)) = ((i + j : Nat) : Int) := by rw [wrap_id (by omega) (by omega)]; omega
      have e2 : IntKind.u64.wrap ((i + j : Nat) : Int) = ((i + j : Nat) : Int) := u64_id (by omega) (by omega)
      have e3 : wrap64 (((i + j : Nat) : Int) / 2) = (((i + j) / 2 : Nat) : Int) := by rw [wrap_id (by omega) (by omega)]; omega
      rw [if_pos (by omega), if_pos h, e1, e2, e3, if_pos (by omega), if_pos (by omega), rd_int, less_ok, Option.bind_some]
      by_cases hc : l.getD ((i + j) / 2) 0 < x
      · rw [if_pos (decide_eq_true hc), if_pos (by omega), wrap_nat (by omega)]
        exact search_loop l x hl f _ j (by omega) hj (by omega) k (by omega)
      · rw [if_neg (by simpa using hc), if_neg (by omega)]
        exact search_loop l x hl f i _ (by omega) (by omega) (by omega) k (by omega)
    · rw [if_neg (by omega), if_neg h]
      by_cases hn : i < l.length
      · rw [if_pos (by omega), if_pos (by omega), if_pos (by omega), rd_int]
        by_cases hx : l.getD i 0 = x
        · rw [if_pos hx, decide_eq_true ⟨hn, by omega⟩]
        · rw [if_neg hx, decide_eq_false (by omega)]
          simp [slices_isNaN_int.f]
      · rw [if_neg (by omega), decide_eq_false (by omega)]
theorem search_ok (l : List Int) (x : Int) (hs : l.Pairwise (fun x y : Int => x < y)) (hl : l.length < 4611686018427387904) (k : Nat) (hk : l.length + 2 ≤ k) :
    ∃ p b, slices_BinarySearch_int_int.f k l x = some (p, b) ∧ (b = true ↔ x ∈ l) := by
  have h := search_loop l x hl (l.length + 1) 0 l.length (by omega) (by omega) (by omega) k (by omega)
  refine ⟨_, _, h, ?_⟩
  have hp : ∀ i j, i < j → j < l.length → l.getD i 0 < l.getD j 0 := by
    intro i j hij hj
    have := List.pairwise_iff_getElem.mp hs i j (by omega) hj hij
    simpa [List.getD, List.getElem?_eq_getElem hj, List.getElem?_eq_getElem (show i < l.length by omega)] using this
  have hb := bsB_iff (fun m => l.getD m 0 - x) l.length (fun i j hij hj hc => by have := hp i j hij hj; omega) (fun i j hij hj hc => by have := hp i j hij hj; omega)
  have e : decide (bsI (fun m => l.getD m 0 - x) (l.length + 1) 0 l.length < l.length ∧ l.getD (bsI (fun m => l.getD m 0 - x) (l.length + 1) 0 l.length) 0 - x = 0) = bsB (fun m => l.getD m 0 - x) l.length := by
    unfold bsB bsN
    rw [Bool.eq_iff_iff]; simp
  rw [e, hb]
  constructor
  · rintro ⟨i, hi, hc⟩
    have : l.getD i 0 = x := by omega
    exact this ▸ getD_memZ hi
  · intro hx
    obtain ⟨i, hi, e⟩ := List.mem_iff_getElem.mp hx
    refine ⟨i, hi, ?_⟩
    have : l.getD i 0 = x := by simp [List.getD, List.getElem?_eq_getElem hi, e]
    omega
theorem span_has (u : Int) (e : List Int) (n : Int) (h : OkS u e) (hl : e.length < 1000000) (k : Nat) (hk : e.length + 2 ≤ k) : span_Has.f k u e n = some (decide (memS u e n)) := by
  unfold span_Has.f
  by_cases hc : n ≤ u
  · rw [if_pos hc]
    congr 1
    rw [decide_eq_decide]
    unfold memS
    constructor
    · intro x; exact Or.inl ⟨x, hc⟩
    · rintro (x | x)
      · exact x.1
      · have := h.gap n x; omega
  · rw [if_neg hc]
    obtain ⟨p, b, hf, hb⟩ := search_ok e n h.sort (by omega) k hk
    rw [hf, Option.bind_some]
    congr 1
    rw [Bool.eq_iff_iff, hb, decide_eq_true_eq]
    unfold memS
    exact ⟨Or.inr, fun x => x.elim (fun y => absurd y.2 hc) id⟩
theorem span_count (u : Int) (e : List Int) (h : OkS u e) (hl : e.length < 1000000) : span_Count.f u e = some (u + e.length) := by
  have ha := h.lo; have hb := h.up
  unfold span_Count.f
  rw [wrap_id (by omega) (by omega)]
theorem getD_last (e : List Int) (hne : e ≠ []) : e.getD (e.length - 1) 0 = e.getLast hne := by
  have hp := List.length_pos_iff.mpr hne
  rw [List.getLast_eq_getElem]
  simp [List.getD, List.getElem?_eq_getElem (show e.length - 1 < e.length by omega)]
theorem span_top (u : Int) (e : List Int) (hl : e.length < 1000000) : span_Top.f u e = some (if h : e = [] then u else e.getLast h) := by
  unfold span_Top.f
  by_cases he : e = []
  · subst he; rfl
  · have hp := List.length_pos_iff.mpr he
    have hw : wrap64 ((e.length : Int) - 1) = ((e.length - 1 : Nat) : Int) := by rw [wrap_id (by omega) (by omega)]; omega
    rw [if_neg (by omega), hw, if_pos (by omega), if_pos (by omega), rd_int, getD_last e he, dif_neg he]
/-- All in order, behind the first ones. -/
def rightL (last : Int) : List Int → Bool
  | [] => true
  | x :: t => decide (last < x) && decide (x ≤ 1048576) && rightL x t
theorem rightL_ok : ∀ (l : List Int) (last : Int), l.Pairwise (fun x y : Int => x < y) → (∀ x ∈ l, last < x) → (∀ x ∈ l, x ≤ 1048576) → rightL last l = true
  | [], _, _, _, _ => rfl
  | x :: t, last, hs, hl, hm => by
    rw [List.pairwise_cons] at hs
    unfold rightL
    rw [decide_eq_true (hl x (by simp)), decide_eq_true (hm x (by simp)), rightL_ok t x hs.2 hs.1 fun y hy => hm y (by simp [hy])]; rfl
theorem right_loop (l : List Int) (hl : l.length < 8796093022208) (d : Nat) : ∀ (k n : Nat) (last : Int), l.length - n = d → n ≤ l.length → d < k →
    span_Right.l0 k last l (l.length : Int) (n : Int) = some (rightL last (l.drop n)) := by
  induction d with
  | zero =>
    intro k n last hd hn hk
    obtain ⟨k, rfl⟩ : ∃ m, k = m + 1 := ⟨k - 1, by omega⟩
    simp only [span_Right.l0]
    rw [if_neg (by omega), List.drop_eq_nil_of_le (by omega)]; rfl
  | succ d ih =>
    intro k n last hd hn hk
    obtain ⟨k, rfl⟩ : ∃ m, k = m + 1 := ⟨k - 1, by omega⟩
    simp only [span_Right.l0]
    rw [if_pos (by omega), if_pos (by omega), if_pos (by omega), rd_int, drop_getD l 0 n (by omega)]
    generalize l.getD n 0 = x
    unfold rightL
    by_cases h1 : x ≤ last
    · rw [if_pos h1, decide_eq_false (by omega)]; rfl
    · rw [if_neg h1, decide_eq_true (by omega)]
      by_cases h2 : x > 1048576
      · rw [if_pos h2, decide_eq_false (by omega)]; rfl
      · rw [if_neg h2, decide_eq_true (by omega), wrap_nat (by omega), ih k (n + 1) x (by omega) (by omega) (by omega)]; rfl
/-- What Right says of any. -/
def rightS (u : Int) (e : List Int) : Bool := decide (0 ≤ u) && decide (u ≤ 1048576) && decide (e.length ≤ 4096) && rightL (u + 1) e
theorem span_right (u : Int) (e : List Int) (hl : e.length < 8796093022208) (k : Nat) (hk : e.length + 1 < k) : span_Right.f k u e = some (rightS u e) := by
  obtain ⟨k, rfl⟩ : ∃ m, k = m + 1 := ⟨k - 1, by omega⟩
  unfold span_Right.f rightS
  by_cases h1 : u < 0
  · rw [if_pos h1, decide_eq_false (by omega)]; simp only [span_Right.j0]; rfl
  · rw [if_neg h1, decide_eq_true (show 0 ≤ u by omega)]
    by_cases h2 : u > 1048576
    · rw [if_pos h2, decide_eq_false (show ¬ u ≤ 1048576 by omega)]; simp only [span_Right.j0]; rfl
    · rw [if_neg h2, decide_eq_true (show u ≤ 1048576 by omega)]
      simp only [span_Right.j0]
      by_cases h3 : e.length ≤ 4096
      · rw [decide_eq_false (show ¬ (e.length : Int) > 4096 by omega), decide_eq_true h3, if_neg (by simp), wrap_id (by omega) (by omega)]
        have := right_loop e hl e.length k 0 (u + 1) (by omega) (by omega) (by omega)
        simpa using this
      · rw [decide_eq_true (show (e.length : Int) > 4096 by omega), decide_eq_false h3, if_pos rfl]; rfl
theorem rightS_ok {u : Int} {e : List Int} (h : OkS u e) (hl : e.length ≤ 4096) : rightS u e = true := by
  unfold rightS
  rw [decide_eq_true h.lo, decide_eq_true h.up, decide_eq_true hl, rightL_ok e (u + 1) h.sort h.gap h.hi]; rfl
end Go.Proofs.Ytejoofeigeoboaa.Pure
