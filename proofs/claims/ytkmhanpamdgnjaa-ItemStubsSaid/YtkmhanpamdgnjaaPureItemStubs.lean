/- ItemStubs: a stub may be, if the item may; it has no text, and all else; a stub's stub is it. No condition beyond the statement's own. -/
import Derived.Test.YtkmhanpamdgnjaaItem1
import Derived.Test.YtkmhanpamdgnjaaP11
import Derived.Test.YtkmhanpamdgnjaaGoalItemStubs
namespace Go.Proofs.Ytkmhanpamdgnjaa.Pure
open Go.RowKit Go.Proofs.Ytkmhanpamdgnjaa Go.Proofs.Ytkmhanpamdgnjaa.P Go.Proofs.YtkmhanpamdgnjaaW.PrintWords Go.Proofs.YtkmhanpamdgnjaaW.PrintLast
set_option linter.unusedVariables false
theorem stub_ok {I : It} (h : OkI I) : OkI I.stub :=
  ⟨h.k0, h.k1, h.i0, h.i1, h.q0, h.q1, h.s0, h.s1, h.x0, h.x1, h.y0, h.y1, Nat.zero_le _, fun hd => ⟨rfl, (h.d1 hd).2⟩, fun _ => rfl⟩
theorem stub_len {I : It} (h : OkI I) : (encI I.stub).length ≤ (encI I).length := by
  rw [encI, encI, encT, encT]
  obtain ⟨k, i, q, s, d, x, y, t, hh⟩ := I
  have e1 : (enc 9 (itKd d false)).length = 1 := by cases d <;> rfl
  have e2 : (enc 9 (itKd d hh)).length = 1 := by cases d <;> cases hh <;> rfl
  dsimp only
  rw [if_neg (show ¬ (false = true) by decide)]
  simp only [List.length_append, e1, e2]
  split
  · simp
  · simp only [List.length_append, List.length_nil]
    omega
theorem ItemStubs : cenotaphlaw07_ItemStubs.Pure := by
  intro y0 _
  refine ⟨100, ?_⟩
  obtain ⟨X, hX, oX⟩ := fix_ok y0.f0 y0.f1.f0 y0.f1.f1 y0.f1.f2 y0.f2 y0.f3.f0 y0.f3.f1 y0.f4 y0.f5
  rw [cenotaphlaw07_ItemStubs.f, hX, Option.bind_some, right_ok (stub_ok oX), Option.bind_some, put_item (stub_ok oX) [] (by decide), Option.bind_some, put_item oX [] (by decide), Option.bind_some, List.nil_append, List.nil_append]
  exact if_pos ⟨oX.ok, rfl, stub_len oX⟩
end Go.Proofs.Ytkmhanpamdgnjaa.Pure
