import Derived.Test.YtloeealbggobjaaVecs3
import Derived.Test.YtloeealbggobjaaP9
/- The reference's Vec with one farther. -/
namespace Go.Proofs.Ytloeealbggobjaa.Pure
open Go.RowKit Go.Proofs.Ytloeealbggobjaa Go.Proofs.Ytloeealbggobjaa.P Go.Proofs.YtloeealbggobjaaW.PrintWords Go.Proofs.YtloeealbggobjaaW.PrintLast
set_option linter.unusedVariables false
set_option linter.unusedSimpArgs false
theorem ref_set {l : List SR} (hs : SmallR l) (hl : l.length < 10000) (a : ByteArray) (m : Int) (k : Nat) (hk : 20002 < k) : cenotaphref03_Set.f k l a m = some (setV sR l a m) := by
  obtain ⟨k, rfl⟩ : ∃ m, k = m + 1 := ⟨k - 1, by omega⟩
  have same : cenotaphref03_Set.j0 (k + 1) l a m true = some l := by
    simp only [cenotaphref03_Set.j0, Option.bind_some, List.length_nil, List.nil_append]
    rw [if_pos trivial, if_pos (by omega)]
  unfold cenotaphref03_Set.f setV
  rw [ref_right a _ (by omega), Option.bind_some]
  by_cases h1 : rightB a = true
  · rw [if_pos h1]
    by_cases h2 : m < 1
    · rw [decide_eq_true h2, same, if_neg (by omega)]
    · rw [decide_eq_false h2, if_pos ⟨h1, by omega⟩]
      simp only [cenotaphref03_Set.j0]
      have := right_size h1
      rw [if_neg (by simp), ref_of l a (by omega) k (by omega), Option.bind_some, ref_put hs hl a (by omega) _ k (by omega), Option.bind_some, mx_max, mn_min]
  · rw [if_neg h1, same, if_neg (fun h => h1 h.1)]
end Go.Proofs.Ytloeealbggobjaa.Pure
