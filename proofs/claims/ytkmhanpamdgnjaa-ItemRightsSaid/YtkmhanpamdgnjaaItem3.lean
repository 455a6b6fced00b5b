/- Program and document ask the same of an item. No condition beyond what each says. -/
import Derived.Test.YtkmhanpamdgnjaaItem1
import Derived.Test.YtkmhanpamdgnjaaIds
import Derived.Test.YtkmhanpamdgnjaaP5
namespace Go.Proofs.Ytkmhanpamdgnjaa.Pure
open Go.RowKit Go.Proofs.Ytkmhanpamdgnjaa Go.Proofs.Ytkmhanpamdgnjaa.P Go.Proofs.YtkmhanpamdgnjaaW.PrintWords Go.Proofs.YtkmhanpamdgnjaaW.PrintLast
set_option linter.unusedVariables false
/-- May an item be? -/
def rightI (I : It) : Bool := if I.k < 0 then false else if 32 ≤ I.k then false else if rightB I.i = false then false else if ¬ (1 ≤ I.q ∧ I.q ≤ 1048576 ∧ 1 ≤ I.s ∧ I.s ≤ 1048576) then false else if spotOk I.x I.y = false then false else if 16 < (I.t.size : Int) then false
  else if I.d = true ∧ (I.h = true ∨ ¬ (I.x = 0 ∧ I.y = 0)) then false else if I.h = true then true else ((I.t.size : Int) == 0)
theorem rightB_size {a : ByteArray} (h : rightB a = true) : a.size ≤ 6 := by
  unfold rightB at h
  simp only [Bool.and_eq_true, decide_eq_true_eq] at h
  exact h.1.2
theorem empty_size (t : ByteArray) : t.toList.isEmpty = ((t.size : Int) == 0) := by
  rw [Lib.toList_data]
  have h : t.size = t.data.toList.length := by simp
  rw [h]
  cases t.data.toList with
  | nil => rfl
  | cons a l =>
    symm
    rw [List.isEmpty_cons, beq_eq_false_iff_ne, List.length_cons]
    omega
theorem right_prog (I : It) : I.right = some (rightI I) := by
  rw [It.right, itRight, rightI]
  by_cases h1 : I.k < 0
  · rw [if_pos h1, if_pos h1]
  rw [if_neg h1, if_neg h1]
  by_cases h2 : 32 ≤ I.k
  · rw [if_pos h2, if_pos h2]
  rw [if_neg h2, if_neg h2, item_Version_right.f, id_Right.f, Option.bind_some]
  cases h3 : rightB I.i with
  | false =>
    rw [if_neg (by decide), if_pos rfl, Option.bind_some, if_pos rfl]
  | true =>
    rw [if_pos rfl, if_neg (show ¬ (true = false) by decide)]
    by_cases h4 : 1 ≤ I.q ∧ I.q ≤ 1048576 ∧ 1 ≤ I.s ∧ I.s ≤ 1048576
    · obtain ⟨a, b, c, d⟩ := h4
      rw [if_pos a, if_pos b, if_pos c, decide_eq_true d, Option.bind_some, if_neg (show ¬ (true = false) by decide), if_neg (show ¬ ¬ (1 ≤ I.q ∧ I.q ≤ 1048576 ∧ 1 ≤ I.s ∧ I.s ≤ 1048576) from fun h => h ⟨a, b, c, d⟩)]
      cases h5 : spotOk I.x I.y with
      | false => rw [if_pos rfl, if_pos rfl]
      | true =>
        rw [if_neg (show ¬ (true = false) by decide), if_neg (show ¬ (true = false) by decide)]
        by_cases h6 : 16 < (I.t.size : Int)
        · rw [if_pos h6, if_pos h6]
        rw [if_neg h6, if_neg h6]
        by_cases h7 : I.d = true ∧ (I.h = true ∨ ¬ (I.x = 0 ∧ I.y = 0))
        · rw [if_pos h7, if_pos h7]
        rw [if_neg h7, if_neg h7]
        by_cases h8 : I.h = true
        · rw [if_pos h8, if_pos h8]
        · rw [if_neg h8, if_neg h8, empty_size]
    · have e : (if I.q ≥ 1 then (if I.q ≤ 1048576 then (if I.s ≥ 1 then some (decide (I.s ≤ 1048576)) else some false) else some false) else some false) = some false := by
        by_cases a : I.q ≥ 1
        · rw [if_pos a]
          by_cases b : I.q ≤ 1048576
          · rw [if_pos b]
            by_cases c : I.s ≥ 1
            · rw [if_pos c, decide_eq_false (fun d => h4 ⟨a, b, c, d⟩)]
            · rw [if_neg c]
          · rw [if_neg b]
        · rw [if_neg a]
      rw [e, Option.bind_some, if_pos rfl, if_pos h4]
theorem near_ok (x : Int) : cenotaphref05_near.f x 1000 = some (decide (-1000 ≤ x ∧ x ≤ 1000)) := by
  have hw : wrap64 (-1000) = -1000 := wrap_id (by omega) (by omega)
  rw [cenotaphref05_near.f, hw]
  by_cases h : x ≥ -1000
  · rw [if_pos h]
    by_cases h2 : x ≤ 1000
    · rw [decide_eq_true h2, decide_eq_true ⟨h, h2⟩]
    · rw [decide_eq_false h2, decide_eq_false (fun hh => h2 hh.2)]
  · rw [if_neg h, decide_eq_false (fun hh => h hh.1)]
theorem whole_ok (x y : Int) : cenotaphref05_Whole.f x y = some (spotOk x y) := by
  rw [cenotaphref05_Whole.f, near_ok, Option.bind_some, spotOk]
  cases decide (-1000 ≤ x ∧ x ≤ 1000) with
  | false => rw [if_neg (by decide)]; rfl
  | true => rw [if_pos rfl, near_ok, Option.bind_some]; rfl
theorem j0_true (k : Int) (i : ByteArray) (q s : Int) (d : Bool) (x y : Int) (t : ByteArray) (h : Bool) : cenotaphref07_Right.j0 100 true k i q s d x y t h = some false := by
  simp only [cenotaphref07_Right.j0]
  rw [if_pos trivial]
theorem j0_false (k : Int) (i : ByteArray) (q s : Int) (d : Bool) (x y : Int) (t : ByteArray) (h : Bool) : cenotaphref07_Right.j0 100 false k i q s d x y t h = some (if spotOk x y = false then false else if 16 < (t.size : Int) then false
  else if d = true ∧ (h = true ∨ ¬ (x = 0 ∧ y = 0)) then false else if h = true then true else ((t.size : Int) == 0)) := by
  simp only [cenotaphref07_Right.j0, whole_ok]
  rw [if_neg (by decide), Option.bind_some]
  cases spotOk x y with
  | false => rw [if_neg (by decide), if_pos rfl]
  | true =>
    rw [if_pos rfl, if_neg (show ¬ (true = false) by decide)]
    by_cases h6 : 16 < (t.size : Int)
    · rw [if_pos h6, if_pos h6]
    rw [if_neg h6, if_neg h6]
    cases d with
    | false =>
      rw [if_neg (show ¬ (false = true) by decide), if_neg (show ¬ (false = true ∧ (h = true ∨ ¬ (x = 0 ∧ y = 0))) from fun hh => by cases hh.1)]
      cases h with
      | true => rfl
      | false => rfl
    | true =>
      rw [if_pos rfl]
      by_cases hx : x = 0 ∧ y = 0
      · obtain ⟨rfl, rfl⟩ := hx
        rw [if_neg (by decide)]
        cases h with
        | true => rw [if_pos rfl, if_pos ⟨rfl, .inl rfl⟩]
        | false => rw [if_neg (by decide), if_neg (fun hh => hh.2.elim (fun z => by cases z) (fun z => z ⟨rfl, rfl⟩)), if_neg (by decide)]
      · have e : (!(x == 0) || (!(y == 0))) = true := by
          by_cases h1 : x = 0
          · have h2 : y ≠ 0 := fun h2 => hx ⟨h1, h2⟩
            simp [h2]
          · simp [h1]
        rw [if_pos e, if_pos ⟨rfl, .inr hx⟩]
theorem right_ref (I : It) (k : Nat) (hk : k = 100) : cenotaphref07_Right.f k I.k I.i I.q I.s I.d I.x I.y I.t I.h = some (rightI I) := by
  subst hk
  rw [cenotaphref07_Right.f, rightI]
  by_cases h1 : I.k < 0
  · rw [if_pos h1, if_pos h1, j0_true]
  rw [if_neg h1, if_neg h1]
  by_cases h2 : 32 ≤ I.k
  · rw [if_pos h2, if_pos (by omega), j0_true]
  rw [if_neg h2, if_neg (by omega), ref_right I.i 100 (by omega), Option.bind_some]
  cases h3 : rightB I.i with
  | false => rw [if_neg (by decide), if_pos rfl, j0_true]
  | true =>
    rw [if_pos rfl, if_neg (show ¬ (true = false) by decide)]
    by_cases a : I.q < 1
    · rw [if_pos a, j0_true, if_pos (by omega)]
    rw [if_neg a]
    by_cases b : I.q > 1048576
    · rw [if_pos b, j0_true, if_pos (by omega)]
    rw [if_neg b]
    by_cases c : I.s < 1
    · rw [if_pos c, j0_true, if_pos (by omega)]
    rw [if_neg c]
    by_cases d : I.s > 1048576
    · rw [decide_eq_true d, j0_true, if_pos (by omega)]
    rw [decide_eq_false d, j0_false, if_neg (show ¬ ¬ (1 ≤ I.q ∧ I.q ≤ 1048576 ∧ 1 ≤ I.s ∧ I.s ≤ 1048576) from fun h => h ⟨by omega, by omega, by omega, by omega⟩)]
theorem right_okI {I : It} (h : rightI I = true) : OkI I := by
  rw [rightI] at h
  by_cases h1 : I.k < 0
  · rw [if_pos h1] at h; cases h
  rw [if_neg h1] at h
  by_cases h2 : 32 ≤ I.k
  · rw [if_pos h2] at h; cases h
  rw [if_neg h2] at h
  by_cases h3 : rightB I.i = false
  · rw [if_pos h3] at h; cases h
  rw [if_neg h3] at h
  by_cases h4 : ¬ (1 ≤ I.q ∧ I.q ≤ 1048576 ∧ 1 ≤ I.s ∧ I.s ≤ 1048576)
  · rw [if_pos h4] at h; cases h
  rw [if_neg h4] at h
  replace h4 := Classical.not_not.mp h4
  by_cases h5 : spotOk I.x I.y = false
  · rw [if_pos h5] at h; cases h
  rw [if_neg h5] at h
  by_cases h6 : 16 < (I.t.size : Int)
  · rw [if_pos h6] at h; cases h
  rw [if_neg h6] at h
  by_cases h7 : I.d = true ∧ (I.h = true ∨ ¬ (I.x = 0 ∧ I.y = 0))
  · rw [if_pos h7] at h; cases h
  rw [if_neg h7] at h
  have h3' : rightB I.i = true := by simpa using h3
  have h5' : (-1000 ≤ I.x ∧ I.x ≤ 1000) ∧ (-1000 ≤ I.y ∧ I.y ≤ 1000) := by
    have : spotOk I.x I.y = true := by simpa using h5
    simpa [spotOk] using this
  have hsz : I.i.size ≤ 6 := rightB_size h3'
  refine ⟨by omega, by omega, h3', hsz, h4.1, h4.2.1, h4.2.2.1, h4.2.2.2, h5'.1.1, h5'.1.2, h5'.2.1, h5'.2.2, by omega, fun hd => ?_, fun hh => ?_⟩
  · refine ⟨?_, ?_⟩
    · cases hh : I.h with
      | false => rfl
      | true => exact absurd ⟨hd, .inl hh⟩ h7
    · exact Classical.not_not.mp (fun hn => h7 ⟨hd, .inr hn⟩)
  · rw [if_neg (by rw [hh]; decide)] at h
    have h0 : I.t.size = 0 := by
      have := beq_iff_eq.mp h
      omega
    have : I.t.data = #[] := Array.eq_empty_of_size_eq_zero h0
    cases ht : I.t with
    | mk x => rw [ht] at this; exact congrArg ByteArray.mk this
end Go.Proofs.Ytkmhanpamdgnjaa.Pure
