import Derived.Test.YtloeealbggobjaaVecs1
import Derived.Test.YtloeealbggobjaaP10
/- What the program's Vecs come to, in plain words: may one be. -/
namespace Go.Proofs.Ytloeealbggobjaa.Pure
open Go.RowKit Go.Proofs.Ytloeealbggobjaa Go.Proofs.Ytloeealbggobjaa.P Go.Proofs.YtloeealbggobjaaW.PrintWords Go.Proofs.YtloeealbggobjaaW.PrintLast
set_option linter.unusedVariables false
set_option linter.unusedSimpArgs false
/-- The one ahead. -/
def prevA (l : List SA) : Nat → Option ByteArray
  | 0 => none
  | n + 1 => some (l.getD n z59).f0
theorem vec_right_loop (l : List SA) (hl : l.length < 1000000) (d : Nat) : ∀ (k n : Nat), l.length - n = d → n ≤ l.length → d < k →
    vec_Right.l0 k l l (l.length : Int) (n : Int) = some (rightVB sA (prevA l n) (l.drop n)) := by
  induction d with
  | zero =>
    intro k n hd hn hk
    obtain ⟨k, rfl⟩ : ∃ m, k = m + 1 := ⟨k - 1, by omega⟩
    simp only [vec_Right.l0]
    rw [if_neg (by omega), List.drop_eq_nil_of_le (by omega), rightVB]
  | succ d ih =>
    intro k n hd hn hk
    obtain ⟨k, rfl⟩ : ∃ m, k = m + 1 := ⟨k - 1, by omega⟩
    have ih' := ih k (n + 1) (by omega) (by omega) (by omega)
    simp only [vec_Right.l0]
    rw [if_pos (by omega), if_pos (by omega), if_pos (by omega), rdA, drop_getD l z59 n (by omega), wrap_nat (by omega), ih', prevA]
    generalize hx : l.getD n z59 = x
    have hr : id_Right.f x.f0 = some (rightB x.f0) := rfl
    rw [hr, Option.bind_some, rightVB]
    show _ = some (rightB x.f0 && decide (1 ≤ x.f1) && decide (x.f1 ≤ 1048576) && afterB (prevA l n) x.f0 && rightVB sA (some x.f0) (l.drop (n + 1)))
    by_cases h1 : rightB x.f0 = true
    · rw [h1, if_pos rfl]
      by_cases h2 : x.f1 < 1
      · rw [if_pos h2, decide_eq_false (show ¬ 1 ≤ x.f1 by omega)]; rfl
      · rw [if_neg h2, decide_eq_true (show 1 ≤ x.f1 by omega)]
        by_cases h3 : x.f1 > 1048576
        · rw [if_pos h3, decide_eq_false (show ¬ x.f1 ≤ 1048576 by omega)]; rfl
        · rw [if_neg h3, decide_eq_true (show x.f1 ≤ 1048576 by omega)]
          cases n with
          | zero => rw [if_neg (by omega)]; rfl
          | succ n =>
            have e : wrap64 (((n + 1 : Nat) : Int) - 1) = (n : Int) := by rw [wrap_id (by omega) (by omega)]; omega
            rw [if_pos (by omega), e, if_pos (by omega), if_pos (by omega), rdA, prevA]
            have hcmp : vec_order.f (l.getD n z59).f0 (l.getD n z59).f1 x.f0 x.f1 = some (cmpB (l.getD n z59).f0 x.f0) := rfl
            rw [hcmp, Option.bind_some, afterB]
            by_cases h4 : cmpB (l.getD n z59).f0 x.f0 ≥ 0
            · rw [if_pos h4, decide_eq_false (show ¬ cmpB (l.getD n z59).f0 x.f0 < 0 by omega)]; rfl
            · rw [if_neg h4, decide_eq_true (show cmpB (l.getD n z59).f0 x.f0 < 0 by omega)]; rfl
    · rw [show rightB x.f0 = false by simpa using h1, if_neg (by simp)]; rfl
theorem vec_right (l : List SA) (hl : l.length < 1000000) (k : Nat) (hk : l.length < k) : vec_Right.f k l = some (rightVB sA none l) := by
  unfold vec_Right.f
  have := vec_right_loop l hl l.length k 0 (by omega) (by omega) hk
  simpa [prevA] using this
theorem vec_right_ok {l : List SA} (h : OkV sA l) (hl : l.length < 1000000) (k : Nat) (hk : l.length < k) : vec_Right.f k l = some true := by
  rw [vec_right l hl k hk, rightVB_ok l none h (fun a ha => by cases ha)]
end Go.Proofs.Ytloeealbggobjaa.Pure
