/- WireOnce: whatever bytes are a number's, they are what Put lays of it. No condition beyond the statement's own. -/
import Derived.Test.YtgkcdmhndplejaaWire1
import Derived.Test.YtgkcdmhndplejaaP5
import Derived.Test.YtgkcdmhndplejaaGoalWireOnce
namespace Go.Proofs.Ytgkcdmhndplejaa.Pure
open Go.RowKit Go.Proofs.Ytgkcdmhndplejaa Go.Proofs.Ytgkcdmhndplejaa.P Go.Proofs.YtgkcdmhndplejaaW.PrintWords Go.Proofs.YtgkcdmhndplejaaW.PrintLast
set_option linter.unusedVariables false
theorem WireOnce : cenotaphlaw06_WireOnce.Pure := by
  intro l0 _ hb0
  refine ⟨100, ?_⟩
  have hb : ∀ x ∈ l0.take 30, 0 ≤ x ∧ x < 256 := fun x hx => wf_u8 (hb0 x (List.mem_of_mem_take hx))
  have hl : (l0.take 30).length ≤ 30 := by rw [List.length_take]; omega
  rw [cenotaphlaw06_WireOnce.f]
  generalize l0.take 30 = b at hb hl
  obtain ⟨d, hd, hd2⟩ := dig_some b hb 0 (by omega) 9 0 0 (by omega) (by omega) (by omega) (by omega) (by decide)
  obtain ⟨n, z, e⟩ := d
  rw [num_eq b 0 _ (by omega) (by omega) 100 (by omega) _ hd (fun he => by
    obtain ⟨x, x1, x2, x3, x4, x5, x6, x7⟩ := hd2 he
    have := enc_len 9 x
    have h9 : z ≤ 30 := by dsimp only at x6; omega
    have hdl : ∀ (m : Nat) (y : Int), y < 128 ^ m → 0 < m → (enc m y).length ≤ m := by
      intro m
      induction m with
      | zero => intro y _ h; omega
      | succ m ih =>
        intro y hy _
        by_cases h0 : m = 0
        · subst h0
          rw [enc_small _ _ (by have : y < 128 := hy; omega)]; simp
        · rw [enc]
          split
          · rw [List.length_cons]
            have := ih (y / 128) (div_small m y hy) (by omega)
            omega
          · simp
    have := hdl 9 x x3 (by omega)
    exact ⟨by dsimp only at x5 ⊢; omega, by dsimp only at x5 ⊢; omega⟩), Option.bind_some, numR]
  by_cases he : e = 0
  · subst he
    obtain ⟨x, x1, x2, x3, x4, x5, x6, x7⟩ := hd2 rfl
    dsimp only at x1 x5 x6
    have hxm : x < 9223372036854775808 := x3
    have hn : n = x := by rw [x1]; simp
    subst hn
    rw [if_pos rfl, if_neg (show ¬ n > 9223372036854775807 by omega)]
    dsimp only
    rw [if_pos rfl, put_ok [] (by decide) n (by omega) 100 (by omega), Option.bind_some, List.nil_append]
    have hmx : mx n 0 = n := by unfold mx; split <;> omega
    rw [hmx, if_pos (by omega)]
    have hdt : b.take (enc 9 n).length = enc 9 n := by
      have h8 := x7
      rw [show ((0 : Int) + 0).toNat = 0 from rfl, List.drop_zero] at h8
      exact h8
    rw [hdt, if_pos rfl]
    congr 1
    by_cases hz : z < (b.length : Int)
    · rw [if_pos ⟨rfl, by omega⟩]
      have : ((enc 9 n).length : Int) ≠ (b.length : Int) := by omega
      rw [beq_eq_false_iff_ne.mpr this]
      rfl
    · rw [if_neg (fun h => by omega)]
      have : ((enc 9 n).length : Int) = (b.length : Int) := by omega
      rw [this, beq_self_eq_true, beq_self_eq_true]
      rfl
  · rw [if_neg he]
    dsimp only
    rw [if_neg he]
end Go.Proofs.Ytgkcdmhndplejaa.Pure
