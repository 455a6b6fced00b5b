import Derived.Test.YtjdhnnpagaocnaaVecs3
import Derived.Test.YtjdhnnpagaocnaaP12
/- May a Vec be: the reference's answer. -/
namespace Go.Proofs.Ytjdhnnpagaocnaa.Pure
open Go.RowKit Go.Proofs.Ytjdhnnpagaocnaa Go.Proofs.Ytjdhnnpagaocnaa.P Go.Proofs.YtjdhnnpagaocnaaW.PrintWords Go.Proofs.YtjdhnnpagaocnaaW.PrintLast
set_option linter.unusedVariables false
set_option linter.unusedSimpArgs false
def prevR (l : List SR) : Nat → Option ByteArray
  | 0 => none
  | n + 1 => some (l.getD n z33).f0
theorem ref_right_loop3 (l : List SR) (hl : l.length < 1000000) (d : Nat) : ∀ (k n : Nat), l.length - n = d → n ≤ l.length → (∀ a, prevR l n = some a → rightB a = true) → d + 100 < k →
    cenotaphref03_Right.l0 k l (n : Int) = some (rightVB sR (prevR l n) (l.drop n)) := by
  induction d with
  | zero =>
    intro k n hd hn hp hk
    obtain ⟨k, rfl⟩ : ∃ m, k = m + 1 := ⟨k - 1, by omega⟩
    simp only [cenotaphref03_Right.l0]
    rw [if_neg (by omega), List.drop_eq_nil_of_le (by omega), rightVB]
  | succ d ih =>
    intro k n hd hn hp hk
    obtain ⟨k, rfl⟩ : ∃ m, k = m + 1 := ⟨k - 1, by omega⟩
    have ih' := ih k (n + 1) (by omega) (by omega)
    simp only [cenotaphref03_Right.l0]
    rw [prevR] at ih'
    rw [if_pos (by omega), if_pos (by omega), rdR, drop_getD l z33 n (by omega), wrap_nat (by omega)]
    generalize hx : l.getD n z33 = x at ih' ⊢
    rw [ref_right x.f0 k (by omega), Option.bind_some, rightVB]
    show _ = some (rightB x.f0 && decide (1 ≤ x.f1) && decide (x.f1 ≤ 1048576) && afterB (prevR l n) x.f0 && rightVB sR (some x.f0) (l.drop (n + 1)))
    by_cases h1 : rightB x.f0 = true
    · rw [ih' (fun a ha => by cases ha; exact h1) (by omega), h1, if_pos rfl]
      by_cases h2 : x.f1 < 1
      · rw [if_pos h2, decide_eq_false (show ¬ 1 ≤ x.f1 by omega)]; rfl
      · rw [if_neg h2, decide_eq_true (show 1 ≤ x.f1 by omega)]
        by_cases h3 : x.f1 > 1048576
        · rw [if_pos h3, decide_eq_false (show ¬ x.f1 ≤ 1048576 by omega)]; rfl
        · rw [if_neg h3, decide_eq_true (show x.f1 ≤ 1048576 by omega)]
          cases n with
          | zero => rw [if_neg (by omega)]; rfl
          | succ n =>
            have e : wrap64 (((n + 1 : Nat) : Int) - 1) = (n : Int) := by rw [wrap_id (by omega) (by omega)]; omega
            have hpr := right_size (hp _ (by rw [prevR]))
            rw [if_pos (by omega), e, if_pos (by omega), if_pos (by omega), rdR, prevR, ref_compare _ _ k (by omega) (by omega), Option.bind_some, afterB]
            by_cases h4 : Lib.compareBytes (l.getD n z33).f0.data.toList x.f0.data.toList ≥ 0
            · rw [if_pos h4, decide_eq_false (show ¬ cmpB (l.getD n z33).f0 x.f0 < 0 by unfold cmpB; omega)]; rfl
            · rw [if_neg h4, decide_eq_true (show cmpB (l.getD n z33).f0 x.f0 < 0 by unfold cmpB; omega)]; rfl
    · rw [show rightB x.f0 = false by simpa using h1, if_neg (by simp)]; rfl
theorem ref_right3 (l : List SR) (hl : l.length < 1000000) (k : Nat) (hk : l.length + 100 < k) : cenotaphref03_Right.f k l = some (rightVB sR none l) := by
  unfold cenotaphref03_Right.f
  have := ref_right_loop3 l hl l.length k 0 (by omega) (by omega) (fun a ha => by cases ha) hk
  simpa [prevR] using this
end Go.Proofs.Ytjdhnnpagaocnaa.Pure
