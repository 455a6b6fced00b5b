import Derived.Test.YtgdkgobplinelaaWMore
/- Words for the plain laws: what is told with enough steps; lists read by number. No program in sight. -/
namespace Go.Proofs.Ytgdkgobplinelaa.Pure
open Go.RowKit Go.Proofs.YtgdkgobplinelaaW.PrintWords
theorem wrap_id {i : Int} (h0 : -9223372036854775808 ≤ i) (h1 : i ≤ 9223372036854775807) : wrap64 i = i := by
  unfold wrap64; omega
theorem wrap_nat {n : Nat} (h : n < 9223372036854775807) : wrap64 ((n : Int) + 1) = ((n + 1 : Nat) : Int) := by
  rw [wrap_id (by omega) (by omega)]; rfl
theorem drop_getD {α : Type} (l : List α) (d : α) (n : Nat) (h : n < l.length) : l.drop n = l.getD n d :: l.drop (n + 1) := by
  rw [List.drop_eq_getElem_cons h]; simp [List.getD, List.getElem?_eq_getElem h]
theorem swap_at {α : Type} (d : α) : ∀ (p : List α) (u v : α) (q : List α), ((p ++ u :: v :: q).set p.length ((p ++ u :: v :: q).getD (p.length + 1) d)).set (p.length + 1) ((p ++ u :: v :: q).getD p.length d) = p ++ v :: u :: q
  | [], u, v, q => by simp
  | x :: p, u, v, q => by
    have := swap_at d p u v q
    simp only [List.cons_append, List.length_cons, List.set_cons_succ, List.getD_cons_succ]
    rw [this]
theorem mn_nat (a b : Nat) : mn (a : Int) (b : Int) = ((min a b : Nat) : Int) := by
  unfold mn
  by_cases h : (b : Int) < (a : Int)
  · rw [if_pos h, Nat.min_eq_right (by omega)]
  · rw [if_neg h, Nat.min_eq_left (by omega)]
end Go.Proofs.Ytgdkgobplinelaa.Pure
