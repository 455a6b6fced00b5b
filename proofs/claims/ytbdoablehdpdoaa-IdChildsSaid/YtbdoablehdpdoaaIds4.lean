import Derived.Test.YtbdoablehdpdoaaIds
import Derived.Test.YtbdoablehdpdoaaP1
/- Names and what begins them, in plain words. -/
namespace Go.Proofs.Ytbdoablehdpdoaa.Pure
open Go.RowKit Go.Proofs.Ytbdoablehdpdoaa Go.Proofs.Ytbdoablehdpdoaa.P Go.Proofs.YtbdoablehdpdoaaW.PrintWords Go.Proofs.YtbdoablehdpdoaaW.PrintLast
set_option linter.unusedVariables false
set_option linter.unusedSimpArgs false
theorem idL_cons {l : List UInt8} (h : idL l = true) : ∃ t, l = 48 :: t ∧ t.length ≤ 5 ∧ t.all okDigit = true := by
  cases l with
  | nil => simp [idL] at h
  | cons c t => simp only [idL, Bool.and_eq_true, beq_iff_eq, decide_eq_true_eq] at h; exact ⟨t, by rw [h.1.1], h.1.2, h.2⟩
theorem idL_take {l : List UInt8} (h : idL l = true) (m : Nat) (hm : 1 ≤ m) : idL (l.take m) = true := by
  obtain ⟨t, rfl, h5, ht⟩ := idL_cons h
  obtain ⟨m, rfl⟩ : ∃ j, m = j + 1 := ⟨m - 1, by omega⟩
  have h1 : (t.take m).length ≤ 5 := by rw [List.length_take]; omega
  have h2 : (t.take m).all okDigit = true := by
    rw [List.all_eq_true] at ht ⊢
    exact fun x hx => ht x (List.mem_of_mem_take hx)
  simp only [List.take_succ_cons, idL, h2, decide_eq_true h1]; rfl
theorem right_bounds {a : ByteArray} (h : rightB a = true) : 1 ≤ a.size ∧ a.size ≤ 6 := by
  rw [rightB_eq] at h
  obtain ⟨t, e, h5, _⟩ := idL_cons h
  have := size_list a
  rw [e, List.length_cons] at this
  omega
theorem above_eq (a b : ByteArray) : id_Above.f a b = some (rightB a && rightB b && decide (a.size < b.size) && a.data.toList.isPrefixOf b.data.toList) := by
  simp only [id_Above.f, id_Right.f, strings_HasPrefix.f, Option.bind_some]
  by_cases h : a.size < b.size
  · rw [if_pos (show (b.size : Int) > (a.size : Int) by omega), decide_eq_true h]
    cases rightB a <;> cases rightB b <;> rfl
  · rw [if_neg (show ¬ (b.size : Int) > (a.size : Int) by omega), decide_eq_false h]
    cases rightB a <;> cases rightB b <;> rfl
theorem depth_eq (a : ByteArray) : id_Depth.f a = some (if rightB a = true then (a.size : Int) else 0) := by
  simp only [id_Depth.f, id_Right.f, Option.bind_some]
  cases rightB a <;> simp
theorem parent_eq {a : ByteArray} (h : rightB a = true) (h1 : a.data.toList ≠ [48]) : id_Parent.f a = some (a.extract 0 (a.size - 1), 0) := by
  have := right_bounds h
  simp only [id_Parent.f, id_Right.f, Option.bind_some, h, if_true, Lib.toList_data]
  rw [if_neg h1, wrap_id (by omega) (by omega), if_pos (by omega), if_pos (by omega)]
  have e : ((a.size : Int) - 1).toNat = a.size - 1 := by omega
  rw [e]
theorem parent_root {a : ByteArray} (h : rightB a = true) (h1 : a.data.toList = [48]) : id_Parent.f a = some (⟨#[]⟩, 14) := by
  simp only [id_Parent.f, id_Right.f, Option.bind_some, h, if_true, Lib.toList_data]
  rw [if_pos h1]
theorem parent_none {a : ByteArray} (h : rightB a = false) : id_Parent.f a = some (⟨#[]⟩, 4) := by
  simp only [id_Parent.f, id_Right.f, Option.bind_some, h]
  simp
end Go.Proofs.Ytbdoablehdpdoaa.Pure
