import Derived.Test.YtgdkgobplinelaaWMore
/- Words for the plain laws: what is told with enough steps; lists read by number. No program in sight. -/
namespace Go.Proofs.Ytgdkgobplinelaa.Pure
open Go.RowKit Go.Proofs.YtgdkgobplinelaaW.PrintWords
theorem wrap_id {i : Int} (h0 : -9223372036854775808 ≤ i) (h1 : i ≤ 9223372036854775807) : wrap64 i = i := by
  unfold wrap64; omega
theorem u64_id {i : Int} (h0 : 0 ≤ i) (h1 : i ≤ 18446744073709551615) : IntKind.u64.wrap i = i := by
  unfold IntKind.wrap
  have hb : IntKind.u64.bits = 64 := rfl
  have hs : IntKind.u64.signed = false := rfl
  simp only [hb, hs, Bool.false_and, Bool.false_eq_true, if_false]
  omega
theorem wrap_nat {n : Nat} (h : n < 9223372036854775807) : wrap64 ((n : Int) + 1) = ((n + 1 : Nat) : Int) := by
  rw [wrap_id (by omega) (by omega)]; rfl
end Go.Proofs.Ytgdkgobplinelaa.Pure
