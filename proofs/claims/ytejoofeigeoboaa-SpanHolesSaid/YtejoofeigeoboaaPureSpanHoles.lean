/- SpanHoles: a Span is without Extra just if it has as many numbers as its greatest one says. No condition beyond the statement's own. -/
import Derived.Test.YtejoofeigeoboaaSpans4
import Derived.Test.YtejoofeigeoboaaP9
import Derived.Test.YtejoofeigeoboaaGoalSpanHoles
namespace Go.Proofs.Ytejoofeigeoboaa.Pure
open Go.RowKit Go.Proofs.Ytejoofeigeoboaa Go.Proofs.Ytejoofeigeoboaa.P Go.Proofs.YtejoofeigeoboaaW.PrintWords Go.Proofs.YtejoofeigeoboaaW.PrintLast
set_option linter.unusedVariables false
theorem top_ok {u : Int} {e : List Int} (h : OkS u e) : ∃ t : Nat, (if h : e = [] then u else e.getLast h) = (t : Int) ∧ (∀ m, memS u e m → m ≤ (t : Int)) ∧ (e = [] → (t : Int) = u) ∧ (e ≠ [] → (e.length : Int) ≤ (t : Int) - (u + 1)) ∧ (t : Int) ≤ 1048576 := by
  have h0 := h.lo; have h1 := h.up
  by_cases he : e = []
  · subst he
    refine ⟨u.toNat, by simp; omega, fun m hm => ?_, fun _ => by omega, fun h => absurd rfl h, by omega⟩
    rcases hm with hm | hm
    · omega
    · simp at hm
  · obtain ⟨t, et, hmt, hall⟩ := topS h he
    have hp := h.mem_pos hmt
    have hg : u + 1 < t := by rw [← et]; exact h.gap _ (List.getLast_mem he)
    refine ⟨t.toNat, by rw [dif_neg he, et]; omega, fun m hm => by have := hall m hm; omega, fun h => absurd h he, fun _ => ?_, by omega⟩
    have := length_between e (u + 1) t h.sort (fun x hx => ⟨h.gap x hx, hall x (Or.inr hx)⟩) (by omega)
    omega
theorem holes_loop (u : Int) (e : List Int) (h : OkS u e) (hl : e.length ≤ 30) (t : Nat) (ht : (if h : e = [] then u else e.getLast h) = (t : Int)) (hall : ∀ m, memS u e m → m ≤ (t : Int)) (hnil : e = [] → (t : Int) = u) (hne : e ≠ [] → (e.length : Int) ≤ (t : Int) - (u + 1)) (htM : (t : Int) ≤ 1048576) (d : Nat) :
    ∀ (n k : Nat), t - n = d → n ≤ t → d + 100 < k → cenotaphlaw02_SpanHoles.l0 k ((n : Int) - cntS u e n) ((n : Int) + 1) u e = some true := by
  have htop := span_top u e (by omega : e.length < 1000000)
  rw [ht] at htop
  have h0 := h.lo; have h1 := h.up
  have hcr : ∀ n : Nat, n ≤ t → 0 ≤ (n : Int) - cntS u e n ∧ (n : Int) - cntS u e n ≤ n := by
    intro n
    induction n with
    | zero => intro _; rw [cntS_zero h]; omega
    | succ n ih =>
      intro hn
      have := ih (by omega)
      rw [cntS_succ h]
      split <;> omega
  induction d with
  | zero =>
    intro n k hd hn hk
    obtain ⟨k, rfl⟩ : ∃ m, k = m + 1 := ⟨k - 1, by omega⟩
    have : n = t := by omega
    subst this
    simp only [cenotaphlaw02_SpanHoles.l0]
    rw [htop, Option.bind_some, if_neg (by omega), told_ok _ (by omega), Option.bind_some, if_pos rfl, Option.bind_some, span_count u e h (by omega), Option.bind_some, cntS_all h n hall, wrap_id (by omega) (by omega), if_pos (by omega)]
    have hb : (((e.length : Int) == 0) == ((n : Int) - (u + (e.length : Int)) == 0)) = true := by
      rw [beq_iff_eq, Bool.eq_iff_iff, beq_iff_eq, beq_iff_eq]
      by_cases he : e = []
      · have := hnil he
        subst he
        simp; omega
      · have := hne he
        have hp := List.length_pos_iff.mpr he
        omega
    rw [if_pos hb, first_ok, Option.bind_some, show max 0 (min u 1048576) = u by omega]
    dsimp only
    obtain ⟨b, hw, hw2⟩ := span_within u u [] e (OkS.nil h0 h1) h (by simp; omega) k (by simp; omega)
    have hbt : b = true := hw2.mpr fun m hm => hm.elim Or.inl (fun x => by simp at x)
    rw [hw, Option.bind_some, if_pos hbt]
    by_cases he : e = []
    · rw [if_pos (by rw [he]; rfl)]
    · have hp := List.length_pos_iff.mpr he
      rw [if_neg (by omega), wrap_id (by omega) (by omega), span_has u e _ h (by omega) k (by omega), Option.bind_some, decide_eq_false]
      · rfl
      · rintro (hm | hm)
        · omega
        · have := h.gap _ hm; omega
  | succ d ih =>
    intro n k hd hn hk
    obtain ⟨k, rfl⟩ : ∃ m, k = m + 1 := ⟨k - 1, by omega⟩
    have hc := hcr n hn
    have ih' := ih (n + 1) k (by omega) (by omega) (by omega)
    rw [cntS_succ h] at ih'
    simp only [cenotaphlaw02_SpanHoles.l0]
    rw [htop, Option.bind_some, if_pos (by omega), span_has u e _ h (by omega) k (by omega), Option.bind_some, wrap_id (i := (n : Int) + 1 + 1) (by omega) (by omega)]
    have e1 : ((n + 1 : Nat) : Int) = (n : Int) + 1 := by omega
    rw [e1] at ih'
    by_cases hm : memS u e ((n : Int) + 1)
    · rw [if_pos (decide_eq_true hm)]
      rw [if_pos hm, show (n : Int) + 1 - (cntS u e n + 1) = (n : Int) - cntS u e n by omega] at ih'
      exact ih'
    · rw [if_neg (by simpa using hm), wrap_id (by omega) (by omega)]
      rw [if_neg hm, show (n : Int) + 1 - (cntS u e n + 0) = (n : Int) - cntS u e n + 1 by omega] at ih'
      exact ih'
theorem SpanHoles : cenotaphlaw02_SpanHoles.Pure := by
  rintro y0 ⟨hu, hl, hw⟩
  have hM : maxLen ≤ 9223372036854775807 := by decide
  obtain ⟨u, e, hf, ok, hm, hlen⟩ := ref_fix y0.f0 y0.f1 hu (by omega) hw 1200000 (by omega)
  obtain ⟨t, ht, h1, h2, h3, h4⟩ := top_ok ok
  refine ⟨1200000, ?_⟩
  unfold cenotaphlaw02_SpanHoles.f
  rw [hf, Option.bind_some]
  dsimp only
  rw [to_ok _ _ (by omega), Option.bind_some]
  dsimp only
  have := holes_loop u e ok hlen t ht h1 h2 h3 h4 t 0 1200000 (by omega) (by omega) (by omega)
  rw [cntS_zero ok] at this
  exact this
end Go.Proofs.Ytejoofeigeoboaa.Pure
