import Derived.Test.YtloeealbggobjaaVecs3
import Derived.Test.YtloeealbggobjaaP3
import Derived.Test.YtloeealbggobjaaP7
/- Vecs in the reference's words, and back. -/
namespace Go.Proofs.Ytloeealbggobjaa.Pure
open Go.RowKit Go.Proofs.Ytloeealbggobjaa Go.Proofs.Ytloeealbggobjaa.P Go.Proofs.YtloeealbggobjaaW.PrintWords Go.Proofs.YtloeealbggobjaaW.PrintLast
set_option linter.unusedVariables false
set_option linter.unusedSimpArgs false
theorem to_loop3 (l : List SR) (hl : l.length < 1000000) (d : Nat) : ∀ (k n : Nat) (acc : List SA), l.length - n = d → n ≤ l.length → acc.length + d < 1000000 → d < k → cenotaphlaw03_To.l0 k l acc (n : Int) = some (acc ++ convV sR sA (l.drop n)) := by
  induction d with
  | zero =>
    intro k n acc hd hn ha hk
    obtain ⟨k, rfl⟩ : ∃ m, k = m + 1 := ⟨k - 1, by omega⟩
    simp only [cenotaphlaw03_To.l0]
    rw [if_neg (by omega), List.drop_eq_nil_of_le (by omega)]; simp [convV]
  | succ d ih =>
    intro k n acc hd hn ha hk
    obtain ⟨k, rfl⟩ : ∃ m, k = m + 1 := ⟨k - 1, by omega⟩
    simp only [cenotaphlaw03_To.l0]
    rw [if_pos (by omega), if_pos (by omega), if_pos (by omega), rdR, wrap_nat (by omega), ih k (n + 1) _ (by omega) (by omega) (by simp; omega) (by omega), drop_getD l z56 n (by omega), List.append_assoc]
    rfl
theorem to3 (l : List SR) (hl : l.length < 100000) (k : Nat) (hk : l.length < k) : cenotaphlaw03_To.f k l = some (convV sR sA l) := by
  have := to_loop3 l (by omega) l.length k 0 [] (by omega) (by omega) (by simp; omega) hk
  simpa [cenotaphlaw03_To.f] using this
theorem from_loop3 (l : List SA) (hl : l.length < 1000000) (d : Nat) : ∀ (k n : Nat) (acc : List SR), l.length - n = d → n ≤ l.length → acc.length + d < 1000000 → d < k → cenotaphlaw03_From.l0 k l acc (n : Int) = some (acc ++ convV sA sR (l.drop n)) := by
  induction d with
  | zero =>
    intro k n acc hd hn ha hk
    obtain ⟨k, rfl⟩ : ∃ m, k = m + 1 := ⟨k - 1, by omega⟩
    simp only [cenotaphlaw03_From.l0]
    rw [if_neg (by omega), List.drop_eq_nil_of_le (by omega)]; simp [convV]
  | succ d ih =>
    intro k n acc hd hn ha hk
    obtain ⟨k, rfl⟩ : ∃ m, k = m + 1 := ⟨k - 1, by omega⟩
    simp only [cenotaphlaw03_From.l0]
    rw [if_pos (by omega), if_pos (by omega), if_pos (by omega), rdA, wrap_nat (by omega), ih k (n + 1) _ (by omega) (by omega) (by simp; omega) (by omega), drop_getD l z59 n (by omega), List.append_assoc]
    rfl
theorem from3 (l : List SA) (hl : l.length < 100000) (k : Nat) (hk : l.length < k) : cenotaphlaw03_From.f k l = some (convV sA sR l) := by
  have := from_loop3 l (by omega) l.length k 0 [] (by omega) (by omega) (by simp; omega) hk
  simpa [cenotaphlaw03_From.f] using this
/-- The same as far: told in the reference's words they are one. -/
theorem same_as {x : List SA} {v : List SR} (hx : PV sA x) (hv : PV sR v) (h : ∀ i, ofV sA x i = ofV sR v i) : convV sA sR x = v :=
  PV.ext (convV_PV sA sR hx) hv fun i => by rw [ofV_conv]; exact h i
end Go.Proofs.Ytloeealbggobjaa.Pure
