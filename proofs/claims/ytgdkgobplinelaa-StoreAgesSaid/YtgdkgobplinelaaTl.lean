import Derived.Test.YtgdkgobplinelaaWMore
namespace Go.Proofs.Ytgdkgobplinelaa.Pure
open Go.RowKit Go.Proofs.YtgdkgobplinelaaW.PrintWords
theorem wrap_id {i : Int} (h0 : -9223372036854775808 ≤ i) (h1 : i ≤ 9223372036854775807) : wrap64 i = i := by
  unfold wrap64; omega
theorem u64_id {i : Int} (h0 : 0 ≤ i) (h1 : i ≤ 18446744073709551615) : IntKind.u64.wrap i = i := by
  unfold IntKind.wrap
  have hb : IntKind.u64.bits = 64 := rfl
  have hs : IntKind.u64.signed = false := rfl
  simp only [hb, hs, Bool.false_and, Bool.false_eq_true, if_false]
  omega
theorem wrap_nat {n : Nat} (h : n < 9223372036854775807) : wrap64 ((n : Int) + 1) = ((n + 1 : Nat) : Int) := by
  rw [wrap_id (by omega) (by omega)]; rfl
theorem rd_int (l : List Int) (n : Nat) : rd l (n : Int) = l.getD n 0 := by
  unfold rd; rw [Int.toNat_natCast]
theorem drop_getD {α : Type} (l : List α) (d : α) (n : Nat) (h : n < l.length) : l.drop n = l.getD n d :: l.drop (n + 1) := by
  rw [List.drop_eq_getElem_cons h]; simp [List.getD, List.getElem?_eq_getElem h]
theorem getD_memZ {l : List Int} {i : Nat} (h : i < l.length) : l.getD i 0 ∈ l := by
  simp [List.getD, List.getElem?_eq_getElem h]
theorem swap_at {α : Type} (d : α) : ∀ (p : List α) (u v : α) (q : List α), ((p ++ u :: v :: q).set p.length ((p ++ u :: v :: q).getD (p.length + 1) d)).set (p.length + 1) ((p ++ u :: v :: q).getD p.length d) = p ++ v :: u :: q
  | [], u, v, q => by simp
  | x :: p, u, v, q => by
    have := swap_at d p u v q
    simp only [List.cons_append, List.length_cons, List.set_cons_succ, List.getD_cons_succ]
    rw [this]
theorem wf_int {x : Int} (h : (Lit.int .i64 x).wf = true) : -9223372036854775808 ≤ x ∧ x ≤ 9223372036854775807 := by
  simp only [Lit.wf, Bool.and_eq_true, decide_eq_true_eq] at h
  exact h
end Go.Proofs.Ytgdkgobplinelaa.Pure
