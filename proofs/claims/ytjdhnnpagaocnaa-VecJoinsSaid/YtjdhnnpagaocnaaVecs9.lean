import Derived.Test.YtjdhnnpagaocnaaVecs8
import Derived.Test.YtjdhnnpagaocnaaP16
/- The reference's Meets, and whether one is within another one. -/
namespace Go.Proofs.Ytjdhnnpagaocnaa.Pure
open Go.RowKit Go.Proofs.Ytjdhnnpagaocnaa Go.Proofs.Ytjdhnnpagaocnaa.P Go.Proofs.YtjdhnnpagaocnaaW.PrintWords Go.Proofs.YtjdhnnpagaocnaaW.PrintLast
set_option linter.unusedVariables false
set_option linter.unusedSimpArgs false
theorem ref_meet_loop {a b : List SR} (ha : OkV sR a) (hal : a.length < 1000) (hbl : b.length < 1000) (d : Nat) : ∀ (k n : Nat) (out : List SR), a.length - n = d → n ≤ a.length → OkV sR out → out.length + d < 5000 → d + 30000 < k →
    cenotaphref03_Meet.l0 k a b out (n : Int) = some (meetP sR sR b out (a.drop n)) := by
  induction d with
  | zero =>
    intro k n out hd hn ho hlo hk
    obtain ⟨k, rfl⟩ : ∃ m, k = m + 1 := ⟨k - 1, by omega⟩
    simp only [cenotaphref03_Meet.l0]
    rw [if_neg (by omega), List.drop_eq_nil_of_le (by omega)]; rfl
  | succ d ih =>
    intro k n out hd hn ho hlo hk
    obtain ⟨k, rfl⟩ : ∃ m, k = m + 1 := ⟨k - 1, by omega⟩
    have hx := getD_memR (l := a) (n := n) (by omega)
    have h1 := ha.right _ hx
    have h3 := ha.le _ hx
    simp only [cenotaphref03_Meet.l0]
    rw [if_pos (by omega), if_pos (by omega), rdR, drop_getD a z33 n (by omega)]
    generalize a.getD n z33 = x at h1 h3 ⊢
    have hsz := right_size h1
    have hsz' : x.f0.size ≤ 1000 := by have e : sR.id x = x.f0 := rfl; rw [e] at hsz; omega
    have hlen := putV_length (s := sR) out (sR.id x) (min (sR.n x) (ofV sR b (sR.id x)))
    rw [ref_of b _ (by omega) k (by omega), Option.bind_some, ref_put (small_of ho) (by omega) _ hsz' _ k (by omega), Option.bind_some, wrap_nat (by omega), mn_min, meetP]
    refine ih k (n + 1) _ (by omega) (by omega) (putV_okV ho h1 ?_) (by
      show (putV sR out (sR.id x) (min (sR.n x) (ofV sR b (sR.id x)))).length + d < 5000
      omega) (by omega)
    have h3' : x.f1 ≤ 1048576 := h3
    omega
theorem ref_meet {a b : List SR} (ha : OkV sR a) (hb : OkV sR b) (h1 : a.length < 1000) (h2 : b.length < 1000) (k : Nat) (hk : 40000 < k) :
    ∃ r, cenotaphref03_Meet.f k a b = some r ∧ PV sR r ∧ (∀ i, ofV sR r i = min (ofV sR a i) (ofV sR b i)) ∧ r.length ≤ a.length := by
  obtain ⟨p, q, r⟩ := meetP_spec sR sR hb.toPV a [] PV.nil ha.toPV (fun x _ => ofV_nil _)
  refine ⟨meetP sR sR b [] a, ?_, p, fun i => ?_, by simpa using r⟩
  · unfold cenotaphref03_Meet.f
    have := ref_meet_loop ha h1 h2 a.length k 0 [] (by omega) (by omega) OkV.nil (by simp; omega) (by omega)
    simpa using this
  · rw [q, ofV_nil]
    have := ha.nonneg i
    have := hb.nonneg i
    omega
theorem ref_within_loop {b : List SR} (hbl : b.length < 1000) (a : List SR) (hal : a.length < 1000) (d : Nat) : ∀ (k n : Nat), a.length - n = d → n ≤ a.length → d + 2000 < k →
    cenotaphref03_Within.l0 k a b (n : Int) = some ((a.drop n).all fun x => decide (x.f1 ≤ ofV sR b x.f0)) := by
  induction d with
  | zero =>
    intro k n hd hn hk
    obtain ⟨k, rfl⟩ : ∃ m, k = m + 1 := ⟨k - 1, by omega⟩
    simp only [cenotaphref03_Within.l0]
    rw [if_neg (by omega), List.drop_eq_nil_of_le (by omega)]; rfl
  | succ d ih =>
    intro k n hd hn hk
    obtain ⟨k, rfl⟩ : ∃ m, k = m + 1 := ⟨k - 1, by omega⟩
    simp only [cenotaphref03_Within.l0]
    rw [if_pos (by omega), if_pos (by omega), rdR, drop_getD a z33 n (by omega), ref_of b _ (by omega) k (by omega), Option.bind_some, wrap_nat (by omega), ih k (n + 1) (by omega) (by omega) (by omega), List.all_cons]
    generalize a.getD n z33 = x
    by_cases h : x.f1 > ofV sR b x.f0
    · rw [if_pos h, decide_eq_false (by omega)]; rfl
    · rw [if_neg h, decide_eq_true (by omega)]; rfl
theorem ref_within3 {a b : List SR} (ha : PV sR a) (hb : PV sR b) (h1 : a.length < 1000) (h2 : b.length < 1000) (k : Nat) (hk : 4000 < k) : ∃ r, cenotaphref03_Within.f k a b = some r ∧ (r = true ↔ within sR sR a b) := by
  have := ref_within_loop h2 a h1 a.length k 0 (by omega) (by omega) (by omega)
  refine ⟨_, this, ?_⟩
  rw [List.drop_zero, List.all_eq_true, within_iff ha hb]
  exact ⟨fun h x hx => of_decide_eq_true (h x hx), fun h x hx => decide_eq_true (h x hx)⟩
end Go.Proofs.Ytjdhnnpagaocnaa.Pure
