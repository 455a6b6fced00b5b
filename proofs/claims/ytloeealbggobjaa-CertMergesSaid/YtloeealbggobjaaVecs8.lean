import Derived.Test.YtloeealbggobjaaVecs3
import Derived.Test.YtloeealbggobjaaP8
/- The reference's Joins. -/
namespace Go.Proofs.Ytloeealbggobjaa.Pure
open Go.RowKit Go.Proofs.Ytloeealbggobjaa Go.Proofs.Ytloeealbggobjaa.P Go.Proofs.YtloeealbggobjaaW.PrintWords Go.Proofs.YtloeealbggobjaaW.PrintLast
set_option linter.unusedVariables false
set_option linter.unusedSimpArgs false
theorem getD_memR {l : List SR} {n : Nat} (h : n < l.length) : l.getD n z56 ∈ l := getD_mem h _
theorem ref_join_loop {b : List SR} (hb : OkV sR b) (hbl : b.length < 1000) (d : Nat) : ∀ (k n : Nat) (out : List SR), b.length - n = d → n ≤ b.length → OkV sR out → out.length + d < 5000 → d + 30000 < k →
    cenotaphref03_Join.l0 k b out (n : Int) = some (joinV sR sR out (b.drop n)) := by
  induction d with
  | zero =>
    intro k n out hd hn ho hlo hk
    obtain ⟨k, rfl⟩ : ∃ m, k = m + 1 := ⟨k - 1, by omega⟩
    simp only [cenotaphref03_Join.l0]
    rw [if_neg (by omega), List.drop_eq_nil_of_le (by omega)]; rfl
  | succ d ih =>
    intro k n out hd hn ho hlo hk
    obtain ⟨k, rfl⟩ : ∃ m, k = m + 1 := ⟨k - 1, by omega⟩
    have hx := getD_memR (l := b) (n := n) (by omega)
    have h1 := hb.right _ hx
    have h3 := hb.le _ hx
    simp only [cenotaphref03_Join.l0]
    rw [if_pos (by omega), if_pos (by omega), rdR, drop_getD b z56 n (by omega)]
    generalize b.getD n z56 = x at h1 h3 ⊢
    have hsz := right_size h1
    have hsz' : x.f0.size ≤ 1000 := by have e : sR.id x = x.f0 := rfl; rw [e] at hsz; omega
    have hlen := putV_length (s := sR) out (sR.id x) (max (ofV sR out (sR.id x)) (sR.n x))
    rw [ref_of out _ (by omega) k (by omega), Option.bind_some, ref_put (small_of ho) (by omega) _ hsz' _ k (by omega), Option.bind_some, wrap_nat (by omega), mx_max, joinV]
    refine ih k (n + 1) _ (by omega) (by omega) (putV_okV ho h1 ?_) (by
      show (putV sR out (sR.id x) (max (ofV sR out (sR.id x)) (sR.n x))).length + d < 5000
      omega) (by omega)
    have := ho.le_of x.f0
    have h3' : x.f1 ≤ 1048576 := h3
    omega
theorem ref_join {a b : List SR} (ha : OkV sR a) (hb : OkV sR b) (h1 : a.length < 1000) (h2 : b.length < 1000) (k : Nat) (hk : 40000 < k) :
    ∃ r, cenotaphref03_Join.f k a b = some r ∧ PV sR r ∧ (∀ i, ofV sR r i = max (ofV sR a i) (ofV sR b i)) ∧ r.length ≤ a.length + b.length := by
  obtain ⟨p, q, r⟩ := joinV_spec sR sR b a ha.toPV hb.toPV
  refine ⟨joinV sR sR a b, ?_, p, q, r⟩
  unfold cenotaphref03_Join.f
  simp only [Option.bind_some, List.length_nil, List.nil_append]
  rw [if_pos (by omega)]
  have := ref_join_loop hb h2 b.length k 0 a (by omega) (by omega) ha (by omega) (by omega)
  simpa using this
end Go.Proofs.Ytloeealbggobjaa.Pure
