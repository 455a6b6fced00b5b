/- IdParents: for every text, parent by parent the name that is made of it comes to the root, in as many steps as it is longer; all these are above it, and it is above none of them. No condition beyond the statement's own. -/
import Derived.Test.YtbdoablehdpdoaaIds3
import Derived.Test.YtbdoablehdpdoaaIds4
import Derived.Test.YtbdoablehdpdoaaP2
namespace Go.Proofs.Ytbdoablehdpdoaa.Pure
open Go.RowKit Go.Proofs.Ytbdoablehdpdoaa Go.Proofs.Ytbdoablehdpdoaa.P Go.Proofs.YtbdoablehdpdoaaW.PrintWords Go.Proofs.YtbdoablehdpdoaaW.PrintLast
set_option linter.unusedVariables false
set_option linter.unusedSimpArgs false
theorem told_ok (k : Nat) : cenotaphlaw01_told.f (k + 1) = some true := by
  simp only [cenotaphlaw01_told.f, id_Child.f, id_Child.j0, id_Parent.f, id_Above.f, id_Depth.f, id_Right.f, strings_HasPrefix.f, Lib.toList_data, wrap64]
  rfl
theorem parents_loop (a : ByteArray) (h : rightB a = true) (m : Nat) : ∀ (k : Nat) (x : ByteArray), x.data.toList = a.data.toList.take (m + 1) → m + 1 ≤ a.size → 2 * m + 3 ≤ k →
    cenotaphlaw01_IdParents.l0 k a ((a.size : Int) - (m + 1)) x = some true := by
  have hb := right_bounds h
  have sa := size_list a
  induction m with
  | zero =>
    intro k x hx hm hk
    obtain ⟨k, rfl⟩ : ∃ j, k = j + 3 := ⟨k - 3, by omega⟩
    have e : x.data.toList = [48] := by
      have := h; rw [rightB_eq] at this
      obtain ⟨t, e, _⟩ := idL_cons this
      rw [hx, e]; rfl
    simp only [cenotaphlaw01_IdParents.l0, cenotaphlaw01_IdParents.j1, Lib.toList_data]
    rw [if_pos e, if_neg (by simp), told_ok]
    simp only [Option.bind_some, if_true, depth_eq, h]
    rw [wrap_id (by omega) (by omega)]
    simp
  | succ m ih =>
    intro k x hx hm hk
    obtain ⟨k, rfl⟩ : ∃ j, k = j + 2 := ⟨k - 2, by omega⟩
    have sx := size_list x
    have hlx : x.size = m + 2 := by rw [sx, hx, List.length_take]; omega
    have hr : rightB x = true := by rw [rightB_eq, hx]; rw [rightB_eq] at h; exact idL_take h _ (by omega)
    have hne : x.data.toList ≠ [48] := by intro e; rw [e] at sx; simp at sx; omega
    have hp := parent_eq hr hne
    have hpe : (x.extract 0 (x.size - 1)).data.toList = a.data.toList.take (m + 1) := by
      rw [Lib.extract_data, List.drop_zero, hx, List.take_take]; congr 1; omega
    have sp := size_list (x.extract 0 (x.size - 1))
    have hsp : (x.extract 0 (x.size - 1)).size = m + 1 := by rw [sp, hpe, List.length_take]; omega
    have hrp : rightB (x.extract 0 (x.size - 1)) = true := by rw [rightB_eq, hpe]; rw [rightB_eq] at h; exact idL_take h _ (by omega)
    simp only [cenotaphlaw01_IdParents.l0, cenotaphlaw01_IdParents.j1, Lib.toList_data]
    rw [if_neg hne, decide_eq_true (by omega), if_pos rfl, hp]
    simp only [Option.bind_some]
    rw [if_pos trivial]
    generalize x.extract 0 (x.size - 1) = p at *
    have hpre : p.data.toList.isPrefixOf a.data.toList = true := by rw [hpe, List.isPrefixOf_iff_prefix]; exact List.take_prefix _ _
    have e1 : id_Above.f p a = some true := by rw [above_eq, hrp, h, hpre, decide_eq_true (show p.size < a.size by omega)]; rfl
    have e2 : id_Above.f a p = some false := by rw [above_eq, hrp, h, decide_eq_false (show ¬ a.size < p.size by omega)]; rfl
    rw [e1]; simp only [Option.bind_some, if_true]
    rw [e2]; simp only [Option.bind_some]
    rw [if_neg (by simp), depth_eq, depth_eq, hrp, hr]
    simp only [Option.bind_some, if_true]
    rw [wrap_id (by omega) (by omega), if_pos (by omega), wrap_id (by omega) (by omega)]
    have := ih k p hpe (by omega) (by omega)
    rw [show ((a.size : Int) - ((m + 1 : Nat) + 1)) + 1 = (a.size : Int) - (m + 1) by omega]
    exact this
theorem IdParents : cenotaphlaw01_IdParents.Pure := by
  intro a0 _
  refine ⟨20, ?_⟩
  unfold cenotaphlaw01_IdParents.f
  rw [ref_fix _ _ (by omega)]
  simp only [Option.bind_some]
  have h := fixB_right a0
  have hb := right_bounds h
  have sa := size_list (fixB a0)
  have := parents_loop (fixB a0) h ((fixB a0).size - 1) 20 (fixB a0) (by rw [List.take_of_length_le (by omega)]) (by omega) (by omega)
  rw [show (((fixB a0).size : Int) - (((fixB a0).size - 1 : Nat) + 1)) = 0 by omega] at this
  exact this
end Go.Proofs.Ytbdoablehdpdoaa.Pure
