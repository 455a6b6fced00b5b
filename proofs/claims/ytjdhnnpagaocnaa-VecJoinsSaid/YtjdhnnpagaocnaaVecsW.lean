import Derived.Test.YtjdhnnpagaocnaaVecs1
import Derived.Test.YtjdhnnpagaocnaaP5
/- What the program's Vecs come to, in plain words: is one within another one. -/
namespace Go.Proofs.Ytjdhnnpagaocnaa.Pure
open Go.RowKit Go.Proofs.Ytjdhnnpagaocnaa Go.Proofs.Ytjdhnnpagaocnaa.P Go.Proofs.YtjdhnnpagaocnaaW.PrintWords Go.Proofs.YtjdhnnpagaocnaaW.PrintLast
set_option linter.unusedVariables false
set_option linter.unusedSimpArgs false
theorem vec_within {a b : List SA} (ha : PV sA a) (hb : PV sA b) (h2 : b.length < 1000000) : ∃ r, vec_Within.f a b = some r ∧ (r = true ↔ within sA sA a b) := by
  unfold vec_Within.f
  rw [if_pos (by rw [List.all_eq_true]; intro x _; rw [vec_of hb (by omega)]; rfl)]
  refine ⟨_, rfl, ?_⟩
  rw [within_iff ha hb, Bool.not_eq_true', List.any_eq_false]
  constructor
  · intro h x hx
    have := h x hx
    rw [vec_of hb (by omega), Option.getD_some, decide_eq_true_eq] at this
    show x.f1 ≤ ofV sA b x.f0
    omega
  · intro h x hx
    have : x.f1 ≤ ofV sA b x.f0 := h x hx
    rw [vec_of hb (by omega), Option.getD_some, decide_eq_true_eq]
    omega
end Go.Proofs.Ytjdhnnpagaocnaa.Pure
