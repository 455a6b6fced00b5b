/- IdChilds: of all names and numbers the child is told, or why there is none; a child comes from its parent; two children are one just if their parents and their numbers are. No condition beyond the statement's own. -/
import Derived.Test.YtbdoablehdpdoaaIds4
import Derived.Test.YtbdoablehdpdoaaP1
import Derived.Test.YtbdoablehdpdoaaP2
import Derived.Test.YtbdoablehdpdoaaGoalIdChilds
namespace Go.Proofs.Ytbdoablehdpdoaa.Pure
open Go.RowKit Go.Proofs.Ytbdoablehdpdoaa Go.Proofs.Ytbdoablehdpdoaa.P Go.Proofs.YtbdoablehdpdoaaW.PrintWords Go.Proofs.YtbdoablehdpdoaaW.PrintLast
set_option linter.unusedVariables false
set_option linter.unusedSimpArgs false
theorem told_ok (k : Nat) : cenotaphlaw01_told.f (k + 1) = some true := by
  simp only [cenotaphlaw01_told.f, id_Child.f, id_Child.j0, id_Parent.f, id_Above.f, id_Depth.f, id_Right.f, strings_HasPrefix.f, Lib.toList_data, wrap64]
  rfl
def childB (a : ByteArray) (x : Int) : ByteArray × Int :=
  if rightB a = true then (if x < 1 ∨ x > 9 then (⟨#[]⟩, 1) else if a.size = 6 then (⟨#[]⟩, 18) else (a ++ ⟨#[UInt8.ofNat (48 + x.toNat)]⟩, 0)) else (⟨#[]⟩, 4)
theorem child_eq (a : ByteArray) (x : Int) (k : Nat) : id_Child.f (k + 1) a x = some (childB a x) := by
  simp only [id_Child.f, id_Right.f, Option.bind_some, id_Child.j0, childB]
  cases h : rightB a with
  | false => simp
  | true =>
    have hb := right_bounds h
    simp only [if_true]
    by_cases h1 : x < 1
    · rw [if_pos h1, if_pos (Or.inl h1)]
    · rw [if_neg h1]
      by_cases h9 : x > 9
      · rw [decide_eq_true h9, if_pos rfl, if_pos (Or.inr h9)]
      · rw [decide_eq_false h9, if_neg (by simp), if_neg (show ¬ (x < 1 ∨ x > 9) by omega)]
        by_cases h6 : a.size = 6
        · rw [if_pos (by omega), if_pos h6]
        · have e : strOfNums [wrap64 (48 + x) % 256] = ⟨#[UInt8.ofNat (48 + x.toNat)]⟩ := by
            rw [wrap_id (by omega) (by omega)]
            have : ((48 + x) % 256).toNat = 48 + x.toNat := by omega
            simp [strOfNums, this]
          rw [if_neg (by omega), if_neg h6, e, if_pos (by show a.size + 1 ≤ _; omega)]
theorem digit_of (j : Nat) (h : j ≤ 9) : ((⟨#[48, 49, 50, 51, 52, 53, 54, 55, 56, 57]⟩ : ByteArray).extract j (j + 1)) = ⟨#[UInt8.ofNat (48 + j)]⟩ := by
  match j, h with
  | 0, _ => rfl
  | 1, _ => rfl
  | 2, _ => rfl
  | 3, _ => rfl
  | 4, _ => rfl
  | 5, _ => rfl
  | 6, _ => rfl
  | 7, _ => rfl
  | 8, _ => rfl
  | 9, _ => rfl
theorem ref_child (a : ByteArray) (x : Int) (k : Nat) (hk : 9 ≤ k) : cenotaphref01_Child.f k a x = some (childB a x) := by
  obtain ⟨k, rfl⟩ : ∃ m, k = m + 1 := ⟨k - 1, by omega⟩
  simp only [cenotaphref01_Child.f, ref_right _ _ hk, Option.bind_some, cenotaphref01_Child.j0, childB]
  cases h : rightB a with
  | false => simp
  | true =>
    have hb := right_bounds h
    simp only [if_true]
    by_cases h1 : x < 1
    · rw [if_pos h1, if_pos (Or.inl h1)]
    · rw [if_neg h1]
      by_cases h9 : x > 9
      · rw [decide_eq_true h9, if_pos rfl, if_pos (Or.inr h9)]
      · rw [decide_eq_false h9, if_neg (by simp), if_neg (show ¬ (x < 1 ∨ x > 9) by omega)]
        by_cases h6 : a.size = 6
        · rw [if_pos (by omega), if_pos h6]
        · have e1 : (x + 1).toNat = x.toNat + 1 := by omega
          rw [if_neg (by omega), if_neg h6, wrap_id (by omega) (by omega), if_pos (by omega), if_pos (by omega), if_pos (by omega), e1, digit_of _ (by omega), if_pos (by show a.size + 1 ≤ _; omega)]
theorem child_list (a : ByteArray) (c : UInt8) : (a ++ (⟨#[c]⟩ : ByteArray)).data.toList = a.data.toList ++ [c] := by simp
theorem childB_ok {a : ByteArray} {x : Int} (h : (childB a x).2 = 0) : rightB a = true ∧ 1 ≤ x ∧ x ≤ 9 ∧ a.size ≤ 5 ∧ (childB a x).1.data.toList = a.data.toList ++ [UInt8.ofNat (48 + x.toNat)] ∧ rightB (childB a x).1 = true := by
  unfold childB at h ⊢
  by_cases hr : rightB a = true
  · have hb := right_bounds hr
    rw [if_pos hr] at h ⊢
    by_cases h1 : x < 1 ∨ x > 9
    · rw [if_pos h1] at h; exact absurd h (by decide)
    · rw [if_neg h1] at h ⊢
      by_cases h6 : a.size = 6
      · rw [if_pos h6] at h; exact absurd h (by decide)
      · rw [if_neg h6]
        refine ⟨hr, by omega, by omega, by omega, child_list _ _, ?_⟩
        rw [rightB_eq] at hr ⊢
        rw [child_list]
        obtain ⟨t, e, h5, ht⟩ := idL_cons hr
        have hs := size_list a
        rw [e, List.length_cons] at hs
        rw [e, List.cons_append]
        have hd : okDigit (UInt8.ofNat (48 + x.toNat)) = true := by
          have hx : (48 + x.toNat) % 256 = 48 + x.toNat := by omega
          simp [okDigit, UInt8.le_iff_toNat_le, hx]; omega
        simp only [idL, List.all_append, List.all_cons, List.all_nil, ht, hd, List.length_append, List.length_cons, List.length_nil]
        rw [decide_eq_true (by omega)]; rfl
  · rw [if_neg hr] at h; exact absurd h (by decide)
theorem child_one {a b : ByteArray} {x y : Int} (h1 : (childB a x).2 = 0) (h2 : (childB b y).2 = 0) : (childB a x).1.data.toList = (childB b y).1.data.toList ↔ a.data.toList = b.data.toList ∧ x = y := by
  obtain ⟨_, a1, a9, _, e1, _⟩ := childB_ok h1
  obtain ⟨_, b1, b9, _, e2, _⟩ := childB_ok h2
  rw [e1, e2]
  constructor
  · intro h
    have hl : a.data.toList.length = b.data.toList.length := by have := congrArg List.length h; simpa using this
    obtain ⟨h3, h4⟩ := List.append_inj h hl
    refine ⟨h3, ?_⟩
    have h5 : (UInt8.ofNat (48 + x.toNat)).toNat = (UInt8.ofNat (48 + y.toNat)).toNat := by rw [List.cons.inj h4 |>.1]
    simp only [UInt8.toNat_ofNat'] at h5
    omega
  · rintro ⟨h3, rfl⟩; rw [h3]
theorem above_child {a : ByteArray} {x : Int} (h : (childB a x).2 = 0) (p : ByteArray) (hp : p.data.toList = a.data.toList) : id_Above.f p (childB a x).1 = some true := by
  obtain ⟨hr, _, _, h5, e, hr2⟩ := childB_ok h
  have sp := size_list p; have sc := size_list (childB a x).1
  rw [e, List.length_append] at sc
  rw [hp] at sp
  have hrp : rightB p = true := by rw [rightB_eq, hp, ← rightB_eq]; exact hr
  rw [above_eq, hrp, hr2, decide_eq_true (show p.size < (childB a x).1.size by simp only [List.length_cons, List.length_nil] at sc; omega)]
  have : p.data.toList.isPrefixOf (childB a x).1.data.toList = true := by rw [List.isPrefixOf_iff_prefix, hp, e]; exact List.prefix_append _ _
  rw [this]; rfl
theorem parent_child {a : ByteArray} {x : Int} (h : (childB a x).2 = 0) : ∃ p, id_Parent.f (childB a x).1 = some (p, 0) ∧ p.data.toList = a.data.toList := by
  obtain ⟨hr, _, _, h5, e, hr2⟩ := childB_ok h
  have hb := right_bounds hr
  have sa := size_list a; have sc := size_list (childB a x).1
  rw [e, List.length_append] at sc
  simp only [List.length_cons, List.length_nil] at sc
  refine ⟨_, parent_eq hr2 ?_, ?_⟩
  · rw [e]; intro h6; have := congrArg List.length h6; rw [List.length_append] at this; simp only [List.length_cons, List.length_nil] at this; omega
  · rw [Lib.extract_data, List.drop_zero, e]
    have hz : (childB a x).1.size - 1 - 0 = a.data.toList.length := by omega
    rw [hz, List.take_left]
theorem IdChilds : cenotaphlaw01_IdChilds.Pure := by
  intro a b y _ _ _
  refine ⟨20, ?_⟩
  simp only [cenotaphlaw01_IdChilds.f, child_eq _ _ 19, ref_child _ _ 20 (by omega), told_ok 19, Option.bind_some, if_true, cenotaphlaw01_IdChilds.j0, cenotaphlaw01_IdChilds.j1, bne_self_eq_false, Bool.false_eq_true, if_false]
  have h1 := @child_one a b y.f0 y.f1
  have h2 := @above_child a y.f0
  have h3 := @parent_child a y.f0
  generalize childB a y.f0 = p at *
  generalize childB b y.f1 = q at *
  by_cases hp : p.2 = 0
  · rw [if_pos hp]
    by_cases hq : q.2 = 0
    · have hq' : (q.2 != 0) = false := by rw [hq]; rfl
      obtain ⟨r, e1, e2⟩ := h3 hp
      rw [hq', if_neg (by simp), e1]
      simp only [Option.bind_some, if_true, Lib.toList_data, e2]
      rw [h2 hp r e2]
      simp only [Option.bind_some, if_true]
      have h4 := h1 hp hq
      by_cases hab : a.data.toList = b.data.toList
      · rw [if_pos hab]
        by_cases hk : y.f0 = y.f1
        · have := h4.mpr ⟨hab, hk⟩; simp [this, hk]
        · have h5 : ¬ p.1.data.toList = q.1.data.toList := fun h => hk (h4.mp h).2
          have e3 : (p.1.data.toList == q.1.data.toList) = false := by simpa using h5
          have e4 : (y.f0 == y.f1) = false := by simpa using hk
          rw [e3, e4]; rfl
      · rw [if_neg hab]
        have h5 : ¬ p.1.data.toList = q.1.data.toList := fun h => hab (h4.mp h).1
        have e3 : (p.1.data.toList == q.1.data.toList) = false := by simpa using h5
        rw [e3]; rfl
    · have hq' : (q.2 != 0) = true := by simpa using hq
      rw [hq', if_pos rfl]
  · rw [if_neg hp]
end Go.Proofs.Ytbdoablehdpdoaa.Pure
