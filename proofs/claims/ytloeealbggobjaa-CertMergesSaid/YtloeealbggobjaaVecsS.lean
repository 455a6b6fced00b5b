import Derived.Test.YtloeealbggobjaaVecs1
import Derived.Test.YtloeealbggobjaaP14
/- What the program's Vecs come to, in plain words: are two the same. -/
namespace Go.Proofs.Ytloeealbggobjaa.Pure
open Go.RowKit Go.Proofs.Ytloeealbggobjaa Go.Proofs.Ytloeealbggobjaa.P Go.Proofs.YtloeealbggobjaaW.PrintWords Go.Proofs.YtloeealbggobjaaW.PrintLast
set_option linter.unusedVariables false
set_option linter.unusedSimpArgs false
instance : DecidableEq SA := fun x y => decidable_of_iff (x.f0 = y.f0 ∧ x.f1 = y.f1) ⟨fun h => sA.ext h.1 h.2, fun e => e ▸ ⟨rfl, rfl⟩⟩
theorem at_ext {x y : SA} : (!((x.f0.toList == y.f0.toList)) || (!(x.f1 == y.f1))) = true ↔ x ≠ y := by
  rw [Bool.or_eq_true, Bool.not_eq_true', Bool.not_eq_true', beq_eq_false_iff_ne, beq_eq_false_iff_ne, ne_eq, toL_eq]
  cases x; cases y
  simp only [ne_eq, S59.mk.injEq]
  exact Classical.not_and_iff_not_or_not.symm
theorem vec_equal_loop (a b : List SA) (hl : a.length = b.length) (hs : a.length < 1000000) (d : Nat) : ∀ (k n : Nat), a.length - n = d → n ≤ a.length → d < k →
    vec_At_42.l0 k a b (a.length : Int) (n : Int) = some (decide (a.drop n = b.drop n)) := by
  induction d with
  | zero =>
    intro k n hd hn hk
    obtain ⟨k, rfl⟩ : ∃ m, k = m + 1 := ⟨k - 1, by omega⟩
    simp only [vec_At_42.l0]
    rw [if_neg (by omega), List.drop_eq_nil_of_le (by omega), List.drop_eq_nil_of_le (by omega)]; simp
  | succ d ih =>
    intro k n hd hn hk
    obtain ⟨k, rfl⟩ : ∃ m, k = m + 1 := ⟨k - 1, by omega⟩
    simp only [vec_At_42.l0]
    rw [if_pos (by omega), if_pos (by omega), if_pos (by omega), if_pos (by omega), rdA, rdA, drop_getD a z59 n (by omega), drop_getD b z59 n (by omega)]
    by_cases h : a.getD n z59 = b.getD n z59
    · rw [if_neg (fun e => at_ext.mp e h), wrap_nat (by omega), ih k (n + 1) (by omega) (by omega) (by omega), h]
      congr 1
      rw [decide_eq_decide]; simp
    · rw [if_pos (at_ext.mpr h)]
      congr 1
      symm
      rw [decide_eq_false_iff_not]
      intro e
      exact h (List.cons.inj e).1
theorem vec_same (a b : List SA) (hs : a.length < 1000000) (k : Nat) (hk : a.length < k) : vec_Same.f k a b = some (decide (a = b)) := by
  unfold vec_Same.f vec_At_42.f
  by_cases h : a.length = b.length
  · rw [if_pos (by omega)]
    have := vec_equal_loop a b h hs a.length k 0 (by omega) (by omega) hk
    simp only [Int.natCast_zero, Int.cast_ofNat_Int, List.drop_zero] at this
    rw [this]; rfl
  · rw [if_neg (by omega), Option.bind_some]
    congr 1
    symm
    rw [decide_eq_false_iff_not]
    intro e; subst e; exact h rfl
end Go.Proofs.Ytloeealbggobjaa.Pure
