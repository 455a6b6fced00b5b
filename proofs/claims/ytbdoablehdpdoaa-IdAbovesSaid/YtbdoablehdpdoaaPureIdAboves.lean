/- IdAboves: of names made of any three texts: who comes from one that comes from another one comes from that one, too, and comes behind it in the order; of two above one of them is above the other, or they are the same. No condition beyond the statement's own. -/
import Derived.Test.YtbdoablehdpdoaaIds2
import Derived.Test.YtbdoablehdpdoaaIds3
import Derived.Test.YtbdoablehdpdoaaIds4
import Derived.Test.YtbdoablehdpdoaaP4
namespace Go.Proofs.Ytbdoablehdpdoaa.Pure
open Go.RowKit Go.Proofs.Ytbdoablehdpdoaa Go.Proofs.Ytbdoablehdpdoaa.P Go.Proofs.YtbdoablehdpdoaaW.PrintWords Go.Proofs.YtbdoablehdpdoaaW.PrintLast
set_option linter.unusedVariables false
set_option linter.unusedSimpArgs false
theorem told_ok (k : Nat) : cenotaphlaw01_told.f (k + 1) = some true := by
  simp only [cenotaphlaw01_told.f, id_Child.f, id_Child.j0, id_Parent.f, id_Above.f, id_Depth.f, id_Right.f, strings_HasPrefix.f, Lib.toList_data, wrap64]
  rfl
/-- One begins the other, and is shorter. -/
def over (a b : ByteArray) : Bool := decide (a.size < b.size) && a.data.toList.isPrefixOf b.data.toList
theorem over_iff (a b : ByteArray) : over a b = true ↔ a.size < b.size ∧ a.data.toList <+: b.data.toList := by
  simp only [over, Bool.and_eq_true, decide_eq_true_eq, List.isPrefixOf_iff_prefix]
theorem cmp_prefix : ∀ (a t : List UInt8), t ≠ [] → Lib.compareBytes a (a ++ t) = -1
  | [], [], h => absurd rfl h
  | [], _ :: _, _ => rfl
  | x :: a, t, h => by
    rw [List.cons_append, cmp_cons, if_neg (UInt8.lt_irrefl x), if_neg (UInt8.lt_irrefl x)]
    exact cmp_prefix a t h
theorem over_lt {a b : ByteArray} (h : over a b = true) : Lib.compareBytes a.data.toList b.data.toList = -1 := by
  obtain ⟨h1, t, h2⟩ := (over_iff a b).mp h
  have sa := size_list a; have sb := size_list b
  rw [← h2]
  apply cmp_prefix
  intro e; rw [e, List.append_nil] at h2; rw [h2] at sa; omega
theorem over_trans {a b c : ByteArray} (h1 : over a b = true) (h2 : over b c = true) : over a c = true := by
  rw [over_iff] at *
  exact ⟨by omega, h1.2.trans h2.2⟩
theorem over_line {a b c : ByteArray} (h1 : over a c = true) (h2 : over b c = true) : a.data.toList = b.data.toList ∨ over a b = true ∨ over b a = true := by
  rw [over_iff] at h1 h2
  have sa := size_list a; have sb := size_list b
  rcases Nat.lt_trichotomy a.size b.size with h | h | h
  · exact .inr (.inl ((over_iff _ _).mpr ⟨h, List.prefix_of_prefix_length_le h1.2 h2.2 (by omega)⟩))
  · exact .inl ((List.prefix_of_prefix_length_le h1.2 h2.2 (by omega)).eq_of_length (by omega))
  · exact .inr (.inr ((over_iff _ _).mpr ⟨h, List.prefix_of_prefix_length_le h2.2 h1.2 (by omega)⟩))
theorem above_over {a b : ByteArray} (ha : rightB a = true) (hb : rightB b = true) : id_Above.f a b = some (over a b) := by
  rw [above_eq, ha, hb]; rfl
theorem IdAboves : cenotaphlaw01_IdAboves.Pure := by
  intro a0 a1 a2 _ _ _
  refine ⟨20, ?_⟩
  unfold cenotaphlaw01_IdAboves.f
  rw [ref_fix _ _ (by omega), ref_fix _ _ (by omega), ref_fix _ _ (by omega), told_ok]
  have ha := fixB_right a0; have hb := fixB_right a1; have hc := fixB_right a2
  generalize fixB a0 = x at *
  generalize fixB a1 = y at *
  generalize fixB a2 = z at *
  simp only [Option.bind_some, if_true, above_over ha hb, above_over hb hc, above_over ha hc, id_compare, cenotaphlaw01_IdAboves.j0, above_over hb ha, Lib.toList_data]
  have t1 := @over_trans x y z
  have t2 := @over_line x y z
  have t3 := @over_lt x y
  cases e1 : over x y <;> cases e2 : over y z <;> cases e3 : over x z <;> simp [e1, e2, e3] at t1 t2 t3 ⊢
  all_goals (try (rw [t3]; simp))
  all_goals (first | exact t2 | (intro h; exact (t2.resolve_left h)) | skip)
end Go.Proofs.Ytbdoablehdpdoaa.Pure
