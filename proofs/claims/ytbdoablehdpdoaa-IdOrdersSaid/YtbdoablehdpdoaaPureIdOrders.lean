/- IdOrders: of all texts the order is told, as the document says, which texts are one, and which one comes from which; the order goes through. No condition beyond the statement's own. -/
import Derived.Test.YtbdoablehdpdoaaIds2
import Derived.Test.YtbdoablehdpdoaaIds4
import Derived.Test.YtbdoablehdpdoaaP3
import Derived.Test.YtbdoablehdpdoaaP4
namespace Go.Proofs.Ytbdoablehdpdoaa.Pure
open Go.RowKit Go.Proofs.Ytbdoablehdpdoaa Go.Proofs.Ytbdoablehdpdoaa.P Go.Proofs.YtbdoablehdpdoaaW.PrintWords Go.Proofs.YtbdoablehdpdoaaW.PrintLast
set_option linter.unusedVariables false
set_option linter.unusedSimpArgs false
theorem told_ok (k : Nat) : cenotaphlaw01_told.f (k + 1) = some true := by
  simp only [cenotaphlaw01_told.f, id_Child.f, id_Child.j0, id_Parent.f, id_Above.f, id_Depth.f, id_Right.f, strings_HasPrefix.f, Lib.toList_data, wrap64]
  rfl
theorem ref_above (a b : ByteArray) (k : Nat) (hk : 9 ≤ k) : cenotaphref01_Above.f k a b = id_Above.f a b := by
  rw [above_eq]
  simp only [cenotaphref01_Above.f, ref_right _ k hk, Option.bind_some]
  by_cases h : a.size < b.size
  · rw [if_pos (show (b.size : Int) > (a.size : Int) by omega), if_pos (show 0 ≤ (a.size : Int) by omega), if_pos (show (a.size : Int) ≤ (b.size : Int) by omega), decide_eq_true h]
    have hx := Lib.hasPrefix_raw b a
    rw [decide_eq_true (Nat.le_of_lt h), Bool.true_and] at hx
    have e : ((a.size : Int)).toNat = a.size := Int.toNat_natCast _
    rw [e, hx]
    cases rightB a <;> cases rightB b <;> rfl
  · rw [if_neg (show ¬ (b.size : Int) > (a.size : Int) by omega), decide_eq_false h]
    cases rightB a <;> cases rightB b <;> rfl
theorem le_goes {a b c : List UInt8} (h1 : Lib.compareBytes a b ≤ 0) (h2 : Lib.compareBytes b c ≤ 0) : Lib.compareBytes a c ≤ 0 := by
  rcases cmp_range a b with e1 | e1 | e1
  · rcases cmp_range b c with e2 | e2 | e2
    · rw [cmp_lt_trans e1 e2]; decide
    · rw [← cmp_zero e2, e1]; decide
    · omega
  · rw [cmp_zero e1]; exact h2
  · omega
theorem IdOrders : cenotaphlaw01_IdOrders.Pure := by
  intro a0 a1 a2 h0 _ _
  refine ⟨2 * a0.size + 20, ?_⟩
  have hr := cmp_range a0.data.toList a1.data.toList
  simp only [cenotaphlaw01_IdOrders.f, id_compare, Option.bind_some, told_ok, if_true, ref_above _ _ _ (show 9 ≤ 2 * a0.size + 20 by omega), above_eq]
  rw [ref_compare _ _ _ h0 (by omega), cmp_neg a0.data.toList a1.data.toList]
  simp only [Option.bind_some, if_true, Int.neg_neg]
  rw [wrap_id (by omega) (by omega), if_pos rfl]
  have e : ((Lib.compareBytes a0.data.toList a1.data.toList == 0) != (a0.toList == a1.toList)) = false := by
    rw [Lib.toList_data, Lib.toList_data]
    by_cases h : a0.data.toList = a1.data.toList
    · have := (cmp_zero_iff _ _).mpr h
      rw [this]; simp [h]
    · have h2 : ¬ Lib.compareBytes a0.data.toList a1.data.toList = 0 := fun h3 => h (cmp_zero h3)
      have e1 : (a0.data.toList == a1.data.toList) = false := by simpa using h
      have e2 : (Lib.compareBytes a0.data.toList a1.data.toList == 0) = false := by simpa using h2
      rw [e1, e2]; rfl
  rw [e, if_neg (by simp), if_neg (by simp)]
  by_cases h1 : Lib.compareBytes a0.data.toList a1.data.toList ≤ 0
  · rw [if_pos h1]
    by_cases h2 : Lib.compareBytes a1.data.toList a2.data.toList ≤ 0
    · rw [if_pos h2, decide_eq_true (le_goes h1 h2)]
    · rw [if_neg h2]
  · rw [if_neg h1]
end Go.Proofs.Ytbdoablehdpdoaa.Pure
