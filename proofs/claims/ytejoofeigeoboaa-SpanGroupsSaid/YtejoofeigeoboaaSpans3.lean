import Derived.Test.YtejoofeigeoboaaSpans2
/- What the reference's spans come to, in plain words: the rest. -/
namespace Go.Proofs.Ytejoofeigeoboaa.Pure
open Go.RowKit Go.Proofs.Ytejoofeigeoboaa Go.Proofs.Ytejoofeigeoboaa.P Go.Proofs.YtejoofeigeoboaaW.PrintWords Go.Proofs.YtejoofeigeoboaaW.PrintLast
set_option linter.unusedVariables false
set_option linter.unusedSimpArgs false
theorem rsame_loop (u1 u2 : Int) (a b : List Int) (hl : a.length = b.length) (hs : a.length < 8796093022208) (d : Nat) : ∀ (k n : Nat), a.length - n = d → n ≤ a.length → d < k →
    cenotaphref02_Same.l0 k (n : Int) u1 a u2 b = some (decide (a.drop n = b.drop n)) := by
  induction d with
  | zero =>
    intro k n hd hn hk
    obtain ⟨k, rfl⟩ : ∃ m, k = m + 1 := ⟨k - 1, by omega⟩
    simp only [cenotaphref02_Same.l0]
    rw [if_neg (by omega), List.drop_eq_nil_of_le (by omega), List.drop_eq_nil_of_le (by omega)]; rfl
  | succ d ih =>
    intro k n hd hn hk
    obtain ⟨k, rfl⟩ : ∃ m, k = m + 1 := ⟨k - 1, by omega⟩
    simp only [cenotaphref02_Same.l0]
    rw [if_pos (by omega), if_pos (by omega), if_pos (by omega), rd_int, rd_int, drop_getD a 0 n (by omega), drop_getD b 0 n (by omega)]
    by_cases h : a.getD n 0 = b.getD n 0
    · rw [if_pos h, wrap_nat (by omega), ih k (n + 1) (by omega) (by omega) (by omega), h]
      congr 1
      rw [decide_eq_decide]; simp
    · rw [if_neg h]
      congr 1
      symm
      rw [decide_eq_false_iff_not]
      intro e
      exact h (List.cons.inj e).1
theorem ref_same (u1 u2 : Int) (a b : List Int) (hs : a.length < 8796093022208) (k : Nat) (hk : a.length + 1 < k) : cenotaphref02_Same.f k u1 a u2 b = some (decide (u1 = u2 ∧ a = b)) := by
  obtain ⟨k, rfl⟩ : ∃ m, k = m + 1 := ⟨k - 1, by omega⟩
  unfold cenotaphref02_Same.f
  by_cases h : u1 = u2
  · rw [if_pos h]
    simp only [cenotaphref02_Same.j0]
    by_cases h2 : a.length = b.length
    · have e : ((a.length : Int) != (b.length : Int)) = false := by rw [h2]; simp
      rw [e, if_neg (by simp)]
      have := rsame_loop u1 u2 a b h2 hs a.length k 0 (by omega) (by omega) (by omega)
      refine this.trans ?_
      congr 1
      rw [decide_eq_decide]; simp [h]
    · have e : ((a.length : Int) != (b.length : Int)) = true := by rw [bne_iff_ne]; omega
      rw [e, if_pos rfl]
      congr 1
      symm
      rw [decide_eq_false_iff_not]
      rintro ⟨_, e⟩; subst e; exact h2 rfl
  · rw [if_neg h]
    simp only [cenotaphref02_Same.j0]
    rw [if_pos trivial]
    congr 1
    symm
    rw [decide_eq_false_iff_not]
    exact fun e => h e.1
theorem ref_count (u : Int) (e : List Int) (h : OkS u e) (hl : e.length < 1000000) : cenotaphref02_Count.f u e = some (u + e.length) := by
  have ha := h.lo; have hb := h.up
  unfold cenotaphref02_Count.f
  rw [wrap_id (by omega) (by omega)]
theorem ref_top (u : Int) (e : List Int) (hl : e.length < 1000000) : cenotaphref02_Top.f u e = some (if h : e = [] then u else e.getLast h) := by
  unfold cenotaphref02_Top.f
  by_cases he : e = []
  · subst he; rfl
  · have hp := List.length_pos_iff.mpr he
    have hw : wrap64 ((e.length : Int) - 1) = ((e.length - 1 : Nat) : Int) := by rw [wrap_id (by omega) (by omega)]; omega
    rw [if_pos (by omega), hw, if_pos (by omega), if_pos (by omega), rd_int, getD_last e he, dif_neg he]
theorem rright_loop (u : Int) (hu : 0 ≤ u) (hu2 : u ≤ 1048576) (l : List Int) (hl : l.length < 8796093022208) (d : Nat) : ∀ (k n : Nat) (last : Int), l.length - n = d → n ≤ l.length → (n = 0 → last = u + 1) → d < k →
    cenotaphref02_Right.l0 k last (n : Int) u l = some (rightL last (l.drop n)) := by
  induction d with
  | zero =>
    intro k n last hd hn h0 hk
    obtain ⟨k, rfl⟩ : ∃ m, k = m + 1 := ⟨k - 1, by omega⟩
    simp only [cenotaphref02_Right.l0]
    rw [if_neg (by omega), List.drop_eq_nil_of_le (by omega)]; rfl
  | succ d ih =>
    intro k n last hd hn h0 hk
    obtain ⟨k, rfl⟩ : ∃ m, k = m + 1 := ⟨k - 1, by omega⟩
    simp only [cenotaphref02_Right.l0]
    rw [if_pos (by omega), if_pos (by omega), rd_int, drop_getD l 0 n (by omega), wrap_nat (by omega)]
    have ih' := ih k (n + 1) (l.getD n 0) (by omega) (by omega) (by omega) (by omega)
    generalize l.getD n 0 = x at ih' ⊢
    unfold rightL
    by_cases h1 : x ≤ last
    · rw [if_pos h1, decide_eq_false (show ¬ last < x by omega)]
      by_cases hn0 : (n : Int) > 0
      · rw [if_pos hn0]; rfl
      · have : last = u + 1 := h0 (by omega)
        rw [if_neg hn0, wrap_id (by omega) (by omega), if_pos (by omega)]; rfl
    · rw [if_neg h1, decide_eq_true (show last < x by omega)]
      by_cases h2 : x > 1048576
      · rw [if_pos h2, decide_eq_false (show ¬ x ≤ 1048576 by omega)]; rfl
      · rw [if_neg h2, decide_eq_true (show x ≤ 1048576 by omega), ih']; rfl
theorem ref_right (u : Int) (e : List Int) (hl : e.length < 8796093022208) (k : Nat) (hk : e.length + 1 < k) : cenotaphref02_Right.f k u e = some (rightS u e) := by
  obtain ⟨k, rfl⟩ : ∃ m, k = m + 1 := ⟨k - 1, by omega⟩
  unfold cenotaphref02_Right.f rightS
  by_cases h1 : u < 0
  · rw [if_pos h1, decide_eq_false (show ¬ 0 ≤ u by omega)]; simp only [cenotaphref02_Right.j0]; rfl
  · rw [if_neg h1, decide_eq_true (show 0 ≤ u by omega)]
    by_cases h2 : u > 1048576
    · rw [if_pos h2, decide_eq_false (show ¬ u ≤ 1048576 by omega)]; simp only [cenotaphref02_Right.j0]; rfl
    · rw [if_neg h2, decide_eq_true (show u ≤ 1048576 by omega)]
      simp only [cenotaphref02_Right.j0]
      by_cases h3 : e.length ≤ 4096
      · rw [decide_eq_false (show ¬ (e.length : Int) > 4096 by omega), decide_eq_true h3, if_neg (by simp), wrap_id (by omega) (by omega)]
        have := rright_loop u (by omega) (by omega) e hl e.length k 0 (u + 1) (by omega) (by omega) (fun _ => rfl) (by omega)
        simpa using this
      · rw [decide_eq_true (show (e.length : Int) > 4096 by omega), decide_eq_false h3, if_pos rfl]; rfl
/-- Numbers that are added one behind the other. -/
def addsS (u : Int) (e : List Int) : List Int → Int × List Int
  | [] => (u, e)
  | x :: t => addsS (addS u e x).1 (addS u e x).2 t
theorem addsS_ok : ∀ (l : List Int) {u : Int} {e : List Int}, OkS u e →
    OkS (addsS u e l).1 (addsS u e l).2 ∧ (∀ m, memS (addsS u e l).1 (addsS u e l).2 m ↔ memS u e m ∨ (m ∈ l ∧ 1 ≤ m ∧ m ≤ 1048576)) ∧ (addsS u e l).2.length ≤ e.length + l.length
  | [], u, e, h => ⟨h, fun m => by simp [addsS], by simp [addsS]⟩
  | x :: t, u, e, h => by
    obtain ⟨a, b, c⟩ := addS_ok h x
    obtain ⟨a', b', c'⟩ := addsS_ok t a
    unfold addsS
    refine ⟨a', fun m => (b' m).trans ?_, by simp only [List.length_cons]; omega⟩
    rw [b m, List.mem_cons]
    constructor
    · rintro ((p | p) | p)
      · exact Or.inl p
      · exact Or.inr ⟨Or.inl p.1, by omega, by omega⟩
      · exact Or.inr ⟨Or.inr p.1, p.2⟩
    · rintro (p | ⟨p | p, q⟩)
      · exact Or.inl (Or.inl p)
      · exact Or.inl (Or.inr ⟨p, by omega, by omega⟩)
      · exact Or.inr ⟨p, q⟩
/-- A remainder, as Go tells it of a number without sign. -/
theorem urem {v : Int} (h0 : -9223372036854775808 ≤ v) (h1 : v ≤ 9223372036854775807) (m : Int) (hm : 0 < m) (hm2 : m ≤ 1000000) : ∃ z : Int, Int.tmod (IntKind.u64.wrap v) m = z ∧ 0 ≤ z ∧ z < m := by
  have hw : 0 ≤ IntKind.u64.wrap v := by
    unfold IntKind.wrap
    have hb : IntKind.u64.bits = 64 := rfl
    have hs : IntKind.u64.signed = false := rfl
    simp only [hb, hs, Bool.false_and, Bool.false_eq_true, if_false]
    omega
  exact ⟨_, rfl, Int.tmod_nonneg m hw, Int.tmod_lt_of_pos _ hm⟩
theorem fix_loop (a : Int) (l : List Int) (hl : l.length ≤ 9223372036854775807) (hw : ∀ x ∈ l, (Lit.int .i64 x).wf = true) (d : Nat) : ∀ (n : Nat) (u : Int) (e : List Int) (k : Nat), 30 - n = d → n ≤ 30 → n ≤ l.length → OkS u e → (∀ m, memS u e m → m ≤ 60) → e.length ≤ n → d + 200 < k →
    ∃ u' e', cenotaphref02_Fix.l0 k (n : Int) a l u e = some (u', e') ∧ OkS u' e' ∧ (∀ m, memS u' e' m → m ≤ 60) ∧ e'.length ≤ 30 := by
  induction d with
  | zero =>
    intro n u e k hd hn hnl h hm hel hk
    obtain ⟨k, rfl⟩ : ∃ m, k = m + 1 := ⟨k - 1, by omega⟩
    refine ⟨u, e, ?_, h, hm, by omega⟩
    simp only [cenotaphref02_Fix.l0]
    by_cases h1 : (n : Int) < (l.length : Int)
    · rw [if_pos h1, if_neg (by omega)]
    · rw [if_neg h1]
  | succ d ih =>
    intro n u e k hd hn hnl h hm hel hk
    obtain ⟨k, rfl⟩ : ∃ m, k = m + 1 := ⟨k - 1, by omega⟩
    simp only [cenotaphref02_Fix.l0]
    by_cases h1 : (n : Int) < (l.length : Int)
    · obtain ⟨w0, w1⟩ := wf_int (hw _ (getD_memZ (show n < l.length by omega)))
      obtain ⟨z, ez, z0, z1⟩ := urem w0 w1 60 (by omega) (by omega)
      rw [if_pos h1, if_pos (by omega), if_pos (by omega), rd_int, ez, wrap_id (i := z) (by omega) (by omega), wrap_id (i := 1 + z) (by omega) (by omega), ref_add u e _ h (by omega) k (by omega), Option.bind_some, wrap_nat (by omega)]
      obtain ⟨x, y, c⟩ := addS_ok h (1 + z)
      exact ih (n + 1) _ _ k (by omega) (by omega) (by omega) x (fun m hmm => ((y m).mp hmm).elim (hm m) (fun q => by omega)) (by omega) (by omega)
    · rw [if_neg h1]
      exact ⟨u, e, rfl, h, hm, by omega⟩
theorem ref_fix (a : Int) (l : List Int) (ha : (Lit.int .i64 a).wf = true) (hl : l.length ≤ 9223372036854775807) (hw : ∀ x ∈ l, (Lit.int .i64 x).wf = true) (k : Nat) (hk : 500 < k) :
    ∃ u e, cenotaphref02_Fix.f k a l = some (u, e) ∧ OkS u e ∧ (∀ m, memS u e m → m ≤ 60) ∧ e.length ≤ 30 := by
  obtain ⟨w0, w1⟩ := wf_int ha
  obtain ⟨z, ez, z0, z1⟩ := urem w0 w1 40 (by omega) (by omega)
  unfold cenotaphref02_Fix.f
  rw [ez, wrap_id (by omega) (by omega)]
  refine fix_loop a l hl hw 30 0 z [] k (by omega) (by omega) (by omega) (OkS.nil z0 (by omega)) (fun m hm => ?_) (by simp) (by omega)
  rcases hm with hm | hm
  · omega
  · simp at hm
end Go.Proofs.Ytejoofeigeoboaa.Pure
