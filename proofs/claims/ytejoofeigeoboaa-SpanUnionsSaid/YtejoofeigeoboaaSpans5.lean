import Derived.Test.YtejoofeigeoboaaSpans3
import Derived.Test.YtejoofeigeoboaaP15
/- What the reference's unions of spans come to, in plain words. -/
namespace Go.Proofs.Ytejoofeigeoboaa.Pure
open Go.RowKit Go.Proofs.Ytejoofeigeoboaa Go.Proofs.Ytejoofeigeoboaa.P Go.Proofs.YtejoofeigeoboaaW.PrintWords Go.Proofs.YtejoofeigeoboaaW.PrintLast
set_option linter.unusedVariables false
set_option linter.unusedSimpArgs false
theorem unt_l1 (a : Int) (b : List Int) (hb : b.length < 100000) (d : Nat) : ∀ (n : Nat) (u : Int) (e : List Int) (k : Nat), b.length - n = d → n ≤ b.length → OkS u e → e.length + d < 300000 → 1000000 < k → d + 1000000 < k →
    cenotaphref02_Union_t.l1 k (n : Int) a b u e = some (addsS u e (b.drop n)) := by
  induction d with
  | zero =>
    intro n u e k hd hn h hl hk hk2
    obtain ⟨k, rfl⟩ : ∃ m, k = m + 1 := ⟨k - 1, by omega⟩
    simp only [cenotaphref02_Union_t.l1]
    rw [if_neg (by omega), List.drop_eq_nil_of_le (by omega)]; rfl
  | succ d ih =>
    intro n u e k hd hn h hl hk hk2
    obtain ⟨k, rfl⟩ : ∃ m, k = m + 1 := ⟨k - 1, by omega⟩
    obtain ⟨x, y, z⟩ := addS_ok h (b.getD n 0)
    simp only [cenotaphref02_Union_t.l1]
    rw [if_pos (by omega), if_pos (by omega), rd_int, ref_add u e _ h (by omega) k (by omega), Option.bind_some, wrap_nat (by omega), drop_getD b 0 n (by omega)]
    exact ih (n + 1) _ _ k (by omega) (by omega) x (by omega) (by omega) (by omega)
theorem unt_l0 (a' : Int) (a : List Int) (ha : a.length < 100000) (b' : Int) (b : List Int) (hb : b.length < 100000) (d : Nat) : ∀ (n : Nat) (u : Int) (e : List Int) (k : Nat), a.length - n = d → n ≤ a.length → OkS u e → e.length + d < 100000 → d + 1200000 < k →
    cenotaphref02_Union_t.l0 k (n : Int) a' a b' b u e = some (addsS u e (a.drop n ++ b)) := by
  induction d with
  | zero =>
    intro n u e k hd hn h hl hk
    obtain ⟨k, rfl⟩ : ∃ m, k = m + 1 := ⟨k - 1, by omega⟩
    simp only [cenotaphref02_Union_t.l0]
    rw [if_neg (by omega), List.drop_eq_nil_of_le (by omega), List.nil_append]
    have := unt_l1 b' b hb b.length 0 u e k (by omega) (by omega) h (by omega) (by omega) (by omega)
    simpa using this
  | succ d ih =>
    intro n u e k hd hn h hl hk
    obtain ⟨k, rfl⟩ : ∃ m, k = m + 1 := ⟨k - 1, by omega⟩
    obtain ⟨x, y, z⟩ := addS_ok h (a.getD n 0)
    simp only [cenotaphref02_Union_t.l0]
    rw [if_pos (by omega), if_pos (by omega), rd_int, ref_add u e _ h (by omega) k (by omega), Option.bind_some, wrap_nat (by omega), drop_getD a 0 n (by omega)]
    exact ih (n + 1) _ _ k (by omega) (by omega) x (by omega) (by omega)
theorem unf_l1 (a : Int) (b : List Int) (hb : b.length < 100000) (d : Nat) : ∀ (n : Nat) (u : Int) (e : List Int) (k : Nat), b.length - n = d → n ≤ b.length → OkS u e → e.length + d < 300000 → 1000000 < k → d + 1000000 < k →
    cenotaphref02_Union_f.l1 k (n : Int) a b u e = some (addsS u e (b.drop n)) := by
  induction d with
  | zero =>
    intro n u e k hd hn h hl hk hk2
    obtain ⟨k, rfl⟩ : ∃ m, k = m + 1 := ⟨k - 1, by omega⟩
    simp only [cenotaphref02_Union_f.l1]
    rw [if_neg (by omega), List.drop_eq_nil_of_le (by omega)]; rfl
  | succ d ih =>
    intro n u e k hd hn h hl hk hk2
    obtain ⟨k, rfl⟩ : ∃ m, k = m + 1 := ⟨k - 1, by omega⟩
    obtain ⟨x, y, z⟩ := addS_ok h (b.getD n 0)
    simp only [cenotaphref02_Union_f.l1]
    rw [if_pos (by omega), if_pos (by omega), rd_int, ref_add u e _ h (by omega) k (by omega), Option.bind_some, wrap_nat (by omega), drop_getD b 0 n (by omega)]
    exact ih (n + 1) _ _ k (by omega) (by omega) x (by omega) (by omega) (by omega)
theorem unf_l0 (a' : Int) (a : List Int) (ha : a.length < 100000) (b' : Int) (b : List Int) (hb : b.length < 100000) (d : Nat) : ∀ (n : Nat) (u : Int) (e : List Int) (k : Nat), a.length - n = d → n ≤ a.length → OkS u e → e.length + d < 100000 → d + 1200000 < k →
    cenotaphref02_Union_f.l0 k (n : Int) a' a b' b u e = some (addsS u e (a.drop n ++ b)) := by
  induction d with
  | zero =>
    intro n u e k hd hn h hl hk
    obtain ⟨k, rfl⟩ : ∃ m, k = m + 1 := ⟨k - 1, by omega⟩
    simp only [cenotaphref02_Union_f.l0]
    rw [if_neg (by omega), List.drop_eq_nil_of_le (by omega), List.nil_append]
    have := unf_l1 b' b hb b.length 0 u e k (by omega) (by omega) h (by omega) (by omega) (by omega)
    simpa using this
  | succ d ih =>
    intro n u e k hd hn h hl hk
    obtain ⟨k, rfl⟩ : ∃ m, k = m + 1 := ⟨k - 1, by omega⟩
    obtain ⟨x, y, z⟩ := addS_ok h (a.getD n 0)
    simp only [cenotaphref02_Union_f.l0]
    rw [if_pos (by omega), if_pos (by omega), rd_int, ref_add u e _ h (by omega) k (by omega), Option.bind_some, wrap_nat (by omega), drop_getD a 0 n (by omega)]
    exact ih (n + 1) _ _ k (by omega) (by omega) x (by omega) (by omega)
theorem ref_union (u1 u2 : Int) (e1 e2 : List Int) (h1 : OkS u1 e1) (h2 : OkS u2 e2) (l1 : e1.length < 40000) (l2 : e2.length < 40000) (k : Nat) (hk : 1400000 < k) : cenotaphref02_Union.f k u1 e1 u2 e2 = some (unionS u1 e1 u2 e2) := by
  obtain ⟨a, b, c⟩ := unionS_spec h1 h2
  have key : ∀ (u : Int) (x y : List Int), 0 ≤ u → u ≤ 1048576 → (∀ n, memS u1 e1 n ∨ memS u2 e2 n ↔ ((1 ≤ n ∧ n ≤ u) ∨ n ∈ x ∨ n ∈ y)) → (∀ n ∈ x, 1 ≤ n ∧ n ≤ 1048576) → (∀ n ∈ y, 1 ≤ n ∧ n ≤ 1048576) → addsS u [] (x ++ y) = unionS u1 e1 u2 e2 := by
    intro u x y h0 hM hiff hx hy
    obtain ⟨p, q, _⟩ := addsS_ok (x ++ y) (OkS.nil h0 hM)
    obtain ⟨e, e'⟩ := okS_unique p a fun n => (q n).trans (Iff.trans (by
      unfold memS
      rw [List.mem_append]
      constructor
      · rintro ((z | z) | ⟨z | z, _⟩)
        · exact Or.inl z
        · simp at z
        · exact Or.inr (Or.inl z)
        · exact Or.inr (Or.inr z)
      · rintro (z | z | z)
        · exact Or.inl (Or.inl z)
        · exact Or.inr ⟨Or.inl z, hx n z⟩
        · exact Or.inr ⟨Or.inr z, hy n z⟩) ((b n).trans (hiff n)).symm)
    exact Prod.ext e e'
  have p1 := fun n (hn : n ∈ e1) => h1.mem_pos (Or.inr hn)
  have p2 := fun n (hn : n ∈ e2) => h2.mem_pos (Or.inr hn)
  have a1 := h1.lo; have a2 := h1.up; have a3 := h2.lo; have a4 := h2.up
  unfold cenotaphref02_Union.f
  by_cases hc : u2 > u1
  · rw [if_pos hc]
    unfold cenotaphref02_Union_t.f
    rw [if_pos hc]
    have := unt_l0 u2 e2 (by omega) u1 e1 (by omega) e2.length 0 u2 [] k (by omega) (by omega) (OkS.nil a3 a4) (by simp; omega) (by omega)
    refine this.trans ?_
    rw [List.drop_zero, key u2 e2 e1 a3 a4 (fun n => ?_) p2 p1]
    unfold memS
    constructor
    · rintro ((z | z) | (z | z))
      · exact Or.inl ⟨z.1, by omega⟩
      · exact Or.inr (Or.inr z)
      · exact Or.inl z
      · exact Or.inr (Or.inl z)
    · rintro (z | z | z)
      · exact Or.inr (Or.inl z)
      · exact Or.inr (Or.inr z)
      · exact Or.inl (Or.inr z)
  · rw [if_neg hc]
    unfold cenotaphref02_Union_f.f
    rw [if_neg hc]
    have := unf_l0 u1 e1 (by omega) u2 e2 (by omega) e1.length 0 u1 [] k (by omega) (by omega) (OkS.nil a1 a2) (by simp; omega) (by omega)
    refine this.trans ?_
    rw [List.drop_zero, key u1 e1 e2 a1 a2 (fun n => ?_) p1 p2]
    unfold memS
    constructor
    · rintro ((z | z) | (z | z))
      · exact Or.inl z
      · exact Or.inr (Or.inl z)
      · exact Or.inl ⟨z.1, by omega⟩
      · exact Or.inr (Or.inr z)
    · rintro (z | z | z)
      · exact Or.inl (Or.inl z)
      · exact Or.inl (Or.inr z)
      · exact Or.inr (Or.inr z)
theorem rwith_l1 (u1 : Int) (e1 : List Int) (u2 : Int) (e2 : List Int) (l1 : e1.length < 100000) (l2 : e2.length < 100000) (d : Nat) : ∀ (n k : Nat), e1.length - n = d → n ≤ e1.length → d + 200000 < k →
    cenotaphref02_Within.l1 k (n : Int) u1 e1 u2 e2 = some (decide (∀ x ∈ e1.drop n, memS u2 e2 x)) := by
  induction d with
  | zero =>
    intro n k hd hn hk
    obtain ⟨k, rfl⟩ : ∃ m, k = m + 1 := ⟨k - 1, by omega⟩
    simp only [cenotaphref02_Within.l1]
    rw [if_neg (by omega)]
    congr 1; symm; rw [decide_eq_true_eq, List.drop_eq_nil_of_le (by omega)]; simp
  | succ d ih =>
    intro n k hd hn hk
    obtain ⟨k, rfl⟩ : ∃ m, k = m + 1 := ⟨k - 1, by omega⟩
    simp only [cenotaphref02_Within.l1]
    rw [if_pos (by omega), if_pos (by omega), rd_int, ref_has _ _ _ (by omega) k (by omega), Option.bind_some]
    by_cases h : memS u2 e2 (e1.getD n 0)
    · rw [decide_eq_true h, if_pos rfl, wrap_nat (by omega), ih (n + 1) k (by omega) (by omega) (by omega)]
      congr 1
      rw [decide_eq_decide, drop_getD e1 0 n (by omega), List.forall_mem_cons]
      exact ⟨fun x => ⟨h, x⟩, fun x => x.2⟩
    · rw [decide_eq_false h, if_neg (by simp)]
      congr 1; symm; rw [decide_eq_false_iff_not]
      intro hh
      exact h (hh _ (by rw [drop_getD e1 0 n (by omega)]; simp))
theorem rwith_l0 (u1 : Int) (e1 : List Int) (u2 : Int) (e2 : List Int) (hu2 : 0 ≤ u2) (hu : u1 ≤ 4000) (l1 : e1.length < 100000) (l2 : e2.length < 100000) (d : Nat) : ∀ (i : Int) (k : Nat), (u1 - i + 1).toNat = d → u2 < i → i ≤ 5000000 → d + 400000 < k →
    ∃ b, cenotaphref02_Within.l0 k i u1 e1 u2 e2 = some b ∧ (b = true ↔ ((∀ x, i ≤ x → x ≤ u1 → memS u2 e2 x) ∧ ∀ x ∈ e1, memS u2 e2 x)) := by
  induction d with
  | zero =>
    intro i k hd hi hi2 hk
    obtain ⟨k, rfl⟩ : ∃ m, k = m + 1 := ⟨k - 1, by omega⟩
    simp only [cenotaphref02_Within.l0]
    rw [if_neg (by omega)]
    have := rwith_l1 u1 e1 u2 e2 l1 l2 e1.length 0 k (by omega) (by omega) (by omega)
    refine ⟨_, this, ?_⟩
    rw [decide_eq_true_eq, List.drop_zero]
    exact ⟨fun h => ⟨fun x h1 h2 => by omega, h⟩, fun h => h.2⟩
  | succ d ih =>
    intro i k hd hi hi2 hk
    obtain ⟨k, rfl⟩ : ∃ m, k = m + 1 := ⟨k - 1, by omega⟩
    simp only [cenotaphref02_Within.l0]
    rw [if_pos (by omega), ref_has _ _ _ (by omega) k (by omega), Option.bind_some]
    by_cases h : memS u2 e2 i
    · obtain ⟨b, hb, hb2⟩ := ih (i + 1) k (by omega) (by omega) (by omega) (by omega)
      rw [decide_eq_true h, if_pos rfl, wrap_id (i := u2 + 5000) (by omega) (by omega), if_neg (by omega), wrap_id (i := i + 1) (by omega) (by omega)]
      refine ⟨b, hb, hb2.trans ?_⟩
      constructor
      · rintro ⟨a, b⟩
        refine ⟨fun x h1 h2 => ?_, b⟩
        by_cases e : x = i
        · subst e; exact h
        · exact a x (by omega) h2
      · rintro ⟨a, b⟩
        exact ⟨fun x h1 h2 => a x (by omega) h2, b⟩
    · rw [decide_eq_false h, if_neg (by simp)]
      refine ⟨false, rfl, by simp, fun hh => absurd (hh.1 i (by omega) (by omega)) h⟩
theorem ref_within (u1 : Int) (e1 : List Int) (u2 : Int) (e2 : List Int) (h1 : OkS u1 e1) (h2 : OkS u2 e2) (hu : u1 ≤ 4000) (l1 : e1.length < 100000) (l2 : e2.length < 100000) (k : Nat) (hk : 500000 < k) :
    ∃ b, cenotaphref02_Within.f k u1 e1 u2 e2 = some b ∧ (b = true ↔ ∀ n, memS u1 e1 n → memS u2 e2 n) := by
  have a3 := h2.lo; have a4 := h2.up; have a1 := h1.lo
  unfold cenotaphref02_Within.f
  rw [wrap_id (by omega) (by omega)]
  obtain ⟨b, hb, hb2⟩ := rwith_l0 u1 e1 u2 e2 a3 hu l1 l2 _ (u2 + 1) k rfl (by omega) (by omega) (by omega)
  refine ⟨b, hb, hb2.trans ?_⟩
  constructor
  · rintro ⟨a, b⟩ n hn
    rcases hn with hn | hn
    · by_cases h : n ≤ u2
      · exact Or.inl ⟨hn.1, h⟩
      · exact a n (by omega) hn.2
    · exact b n hn
  · intro h
    exact ⟨fun x h1' h2' => h x (Or.inl ⟨by omega, h2'⟩), fun x hx => h x (Or.inr hx)⟩
end Go.Proofs.Ytejoofeigeoboaa.Pure
