/- IdNames: of every text it is told whether it is a name, how long it is, and whose; parsed, a name is itself. No condition beyond the statement's own. -/
import Derived.Test.YtbdoablehdpdoaaIds4
import Derived.Test.YtbdoablehdpdoaaP3
namespace Go.Proofs.Ytbdoablehdpdoaa.Pure
open Go.RowKit Go.Proofs.Ytbdoablehdpdoaa Go.Proofs.Ytbdoablehdpdoaa.P Go.Proofs.YtbdoablehdpdoaaW.PrintWords Go.Proofs.YtbdoablehdpdoaaW.PrintLast
set_option linter.unusedVariables false
set_option linter.unusedSimpArgs false
theorem told_ok (k : Nat) : cenotaphlaw01_told.f (k + 1) = some true := by
  simp only [cenotaphlaw01_told.f, id_Child.f, id_Child.j0, id_Parent.f, id_Above.f, id_Depth.f, id_Right.f, strings_HasPrefix.f, Lib.toList_data, wrap64]
  rfl
theorem parse_ok {a : ByteArray} (h : rightB a = true) : id_Parse.f a = some (a, 0) := by
  simp only [id_Parse.f, id_Right.f, h, Option.bind_some, if_true]
theorem IdNames : cenotaphlaw01_IdNames.Pure := by
  intro a0 _
  refine ⟨20, ?_⟩
  have sa := size_list a0
  unfold cenotaphlaw01_IdNames.f
  rw [ref_right _ _ (by omega), told_ok]
  cases h : rightB a0 with
  | false =>
    rw [parent_none h]
    simp only [id_Parse.f, id_Right.f, h, Option.bind_some, Lib.toList_data, cenotaphlaw01_IdNames.j0, depth_eq]
    rfl
  | true =>
    have hb := right_bounds h
    by_cases e : a0.data.toList = [48]
    · have h1 : a0.size = 1 := by rw [sa, e]; rfl
      rw [parent_root h e]
      rw [parse_ok h]
      simp [id_Right.f, h, Lib.toList_data, cenotaphlaw01_IdNames.j0, depth_eq, h1]
    · have h1 : ¬ (a0.size : Int) = 1 := by
        intro h1
        rw [rightB_eq] at h
        obtain ⟨t, e2, _⟩ := idL_cons h
        have : t = [] := by rw [e2, List.length_cons] at sa; exact List.eq_nil_of_length_eq_zero (by omega)
        rw [this] at e2; exact e e2
      rw [parent_eq h e]
      have e1 : ((a0.size : Int) - 1).toNat = a0.size - 1 := by omega
      have e2 := wrap_id (i := (a0.size : Int) - 1) (by omega) (by omega)
      have h1' : ¬ a0.size = 1 := by omega
      have h3 : 1 ≤ a0.size := by omega
      rw [parse_ok h]
      simp [id_Right.f, h, Lib.toList_data, cenotaphlaw01_IdNames.j0, depth_eq, h1', e2, e1, h3]
      rw [if_neg (by omega), if_pos (by omega), if_pos (by omega)]
end Go.Proofs.Ytbdoablehdpdoaa.Pure
