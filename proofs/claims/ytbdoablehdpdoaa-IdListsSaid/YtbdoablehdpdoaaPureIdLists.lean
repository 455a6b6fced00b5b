/- IdLists: of all lists what is in both, and whether one is in, is told, as the document says; what is handed in stays. No condition beyond the statement's own. -/
import Derived.Test.YtbdoablehdpdoaaIds5
import Derived.Test.YtbdoablehdpdoaaP4
import Derived.Test.YtbdoablehdpdoaaP7
import Derived.Test.YtbdoablehdpdoaaGoalIdLists
namespace Go.Proofs.Ytbdoablehdpdoaa.Pure
open Go.RowKit Go.Proofs.Ytbdoablehdpdoaa Go.Proofs.Ytbdoablehdpdoaa.P Go.Proofs.YtbdoablehdpdoaaW.PrintWords Go.Proofs.YtbdoablehdpdoaaW.PrintLast
set_option linter.unusedVariables false
set_option linter.unusedSimpArgs false
theorem told_ok (k : Nat) : cenotaphlaw01_told.f (k + 1) = some true := by
  simp only [cenotaphlaw01_told.f, id_Child.f, id_Child.j0, id_Parent.f, id_Above.f, id_Depth.f, id_Right.f, strings_HasPrefix.f, Lib.toList_data, wrap64]
  rfl
theorem to_loop (l : List ByteArray) (hl : l.length < 8796093022208) (d : Nat) : ∀ (k n : Nat), l.length - n = d → n ≤ l.length → d < k → cenotaphlaw01_To.l0 k l (l.take n) (n : Int) = some l := by
  induction d with
  | zero =>
    intro k n hd hn hk
    obtain ⟨k, rfl⟩ : ∃ m, k = m + 1 := ⟨k - 1, by omega⟩
    simp only [cenotaphlaw01_To.l0]; rw [if_neg (by omega), List.take_of_length_le (by omega)]
  | succ d ih =>
    intro k n hd hn hk
    obtain ⟨k, rfl⟩ : ∃ m, k = m + 1 := ⟨k - 1, by omega⟩
    simp only [cenotaphlaw01_To.l0]
    rw [if_pos (by omega), if_pos (by omega), if_pos (by rw [List.length_take]; omega), rd_nat, take_succ_getD _ _ _ (by omega), wrap_id (by omega) (by omega)]
    exact ih k (n + 1) (by omega) (by omega) (by omega)
theorem from_loop (l : List ByteArray) (hl : l.length < 8796093022208) (d : Nat) : ∀ (k n : Nat), l.length - n = d → n ≤ l.length → d < k → cenotaphlaw01_From.l0 k l (l.take n) (n : Int) = some l := by
  induction d with
  | zero =>
    intro k n hd hn hk
    obtain ⟨k, rfl⟩ : ∃ m, k = m + 1 := ⟨k - 1, by omega⟩
    simp only [cenotaphlaw01_From.l0]; rw [if_neg (by omega), List.take_of_length_le (by omega)]
  | succ d ih =>
    intro k n hd hn hk
    obtain ⟨k, rfl⟩ : ∃ m, k = m + 1 := ⟨k - 1, by omega⟩
    simp only [cenotaphlaw01_From.l0]
    rw [if_pos (by omega), if_pos (by omega), if_pos (by rw [List.length_take]; omega), rd_nat, take_succ_getD _ _ _ (by omega), wrap_id (by omega) (by omega)]
    exact ih k (n + 1) (by omega) (by omega) (by omega)
theorem to_ok (l : List ByteArray) (hl : l.length < 8796093022208) (k : Nat) (hk : l.length < k) : cenotaphlaw01_To.f k l = some l := to_loop l hl l.length k 0 (by omega) (by omega) hk
theorem from_ok (l : List ByteArray) (hl : l.length < 8796093022208) (k : Nat) (hk : l.length < k) : cenotaphlaw01_From.f k l = some l := from_loop l hl l.length k 0 (by omega) (by omega) hk
theorem unionB_length (l : List ByteArray) : (unionB l).length ≤ l.length := by
  unfold unionB Lib.compactUpTo
  rw [List.length_map]
  refine Nat.le_trans (List.length_filter_le _ _) ?_
  simp [sortB]
theorem IdLists : cenotaphlaw01_IdLists.Pure := by
  intro l0 l1 a h0 hs0 h1 hs1 ha
  have hM : maxLen ≤ 9223372036854775807 := by decide
  have mn60 : ∀ l : List ByteArray, l.length ≤ maxLen → (∀ x ∈ l, x.size ≤ maxLen) → ∃ n : Nat, mn (l.length : Int) 60 = (n : Int) ∧ n ≤ l.length ∧ n ≤ 60 := by
    intro l _ _
    unfold mn
    by_cases h : (60 : Int) < (l.length : Int)
    · rw [if_pos h]; exact ⟨60, rfl, by omega, by omega⟩
    · rw [if_neg h]; exact ⟨l.length, rfl, by omega, by omega⟩
  obtain ⟨n0, e0, hn0, hm0⟩ := mn60 l0 h0 hs0
  obtain ⟨n1, e1, hn1, hm1⟩ := mn60 l1 h1 hs1
  simp only [cenotaphlaw01_IdLists.f]
  rw [e0, e1]
  simp only [Int.toNat_natCast]
  have sx : SmallB (l0.take n0) := fun z hz => Nat.le_trans (hs0 z (List.mem_of_mem_take hz)) hM
  have sy : SmallB (l1.take n1) := fun z hz => Nat.le_trans (hs1 z (List.mem_of_mem_take hz)) hM
  have lx : (l0.take n0).length ≤ 60 := by rw [List.length_take]; omega
  have ly : (l1.take n1).length ≤ 60 := by rw [List.length_take]; omega
  simp only [show (0 : Int) ≤ (n0 : Int) by omega, show (0 : Int) ≤ (n1 : Int) by omega, show (n0 : Int) ≤ (l0.length : Int) by omega, show (n1 : Int) ≤ (l1.length : Int) by omega, if_true]
  generalize l0.take n0 = x at sx lx ⊢
  generalize l1.take n1 = y at sy ly ⊢
  obtain ⟨k1, u1⟩ := ref_union x y sx sy (by omega)
  obtain ⟨k2, u2⟩ := ref_union x [a] sx (by intro z hz; rw [List.mem_singleton] at hz; subst hz; exact Nat.le_trans ha (by decide)) (by simp; omega)
  refine ⟨k1 + k2 + 500, ?_⟩
  have l1' := unionB_length (x ++ y)
  have l2' := unionB_length (x ++ [a])
  have l3' := unionB_length (x ++ [])
  rw [List.length_append] at l1' l2' l3'
  simp only [List.length_singleton, List.length_nil] at l2' l3'
  obtain ⟨b, hb, hb2⟩ := ref_has x a (by omega) (k1 + k2 + 500) (by omega)
  have hsame : ∀ l : List ByteArray, l.length ≤ 200 → cenotaphref01_Same.f (k1 + k2 + 500) l l = some true := fun l hl => ref_same l (by omega) _ (by omega)
  have hfrom : ∀ l : List ByteArray, l.length ≤ 200 → cenotaphlaw01_From.f (k1 + k2 + 500) l = some l := fun l hl => from_ok l (by omega) _ (by omega)
  rw [to_ok x (by omega) _ (by omega), Option.bind_some, to_ok y (by omega) _ (by omega), Option.bind_some]
  have f1 : id_Union.f x y = some (unionB (x ++ y)) := by unfold id_Union.f; rw [if_pos (by omega)]
  have f2 : id_Union.f x [a] = some (unionB (x ++ [a])) := by unfold id_Union.f; rw [if_pos (by simp; omega)]
  have f3 : id_Union.f x [] = some (unionB (x ++ [])) := by unfold id_Union.f; rw [if_pos (by simp; omega)]
  have f4 : id_Has.f (unionB (x ++ [])) a = some b := by
    unfold id_Has.f
    rw [if_pos (by omega)]
    congr 1
    rw [Bool.eq_iff_iff, hb2, bsB_mem _ _ (unionB_sorted _), mem_unionB, List.append_nil]
  rw [f1, Option.bind_some, hfrom _ (by omega), Option.bind_some]
  simp only [id_Add.f]
  rw [f2, Option.bind_some, Option.bind_some, hfrom _ (by omega), Option.bind_some, told_ok, Option.bind_some, if_pos rfl, show cenotaphref01_Union.f (k1 + k2 + 500) x y = _ from u1 _ (by omega), Option.bind_some, hsame _ (by omega), Option.bind_some, if_pos rfl, show cenotaphref01_Union.f (k1 + k2 + 500) x [a] = _ from u2 _ (by omega), Option.bind_some, hsame _ (by omega), Option.bind_some, if_pos rfl, f3, Option.bind_some, f4, Option.bind_some, hb, Option.bind_some, if_pos (by simp), hfrom _ (by omega), Option.bind_some, hsame _ (by omega), Option.bind_some, if_pos rfl, hfrom _ (by omega), Option.bind_some, hsame _ (by omega)]
  rfl
end Go.Proofs.Ytbdoablehdpdoaa.Pure
