/- ItemPuts: items that may be, one behind the other, are taken again. No condition beyond the statement's own. -/
import Derived.Test.YtkmhanpamdgnjaaItem1
import Derived.Test.YtkmhanpamdgnjaaP12
import Derived.Test.YtkmhanpamdgnjaaGoalItemPuts
namespace Go.Proofs.Ytkmhanpamdgnjaa.Pure
open Go.RowKit Go.Proofs.Ytkmhanpamdgnjaa Go.Proofs.Ytkmhanpamdgnjaa.P Go.Proofs.YtkmhanpamdgnjaaW.PrintWords Go.Proofs.YtkmhanpamdgnjaaW.PrintLast
set_option linter.unusedVariables false
theorem fixS_ok (x : S46) : ∃ I, fixS 100 x = some I ∧ OkI I := fix_ok _ _ _ _ _ _ _ _ _
/-- What is laid of the items from the ith on. -/
inductive Laid (l : List S46) : Nat → Nat → List Int → Prop where
  | stop (m i : Nat) (h : ¬ (i < l.length ∧ i < 20)) : Laid l (m + 1) i []
  | step (m i : Nat) (I : It) (r : List Int) (h : i < l.length ∧ i < 20) (hI : fixS 100 (rd_T46 l (i : Int)) = some I) (ho : OkI I) (hr : Laid l m (i + 1) r) : Laid l (m + 1) i (encI I ++ r)
theorem puts_l2 (l : List S46) (b : List Int) (hbl : b.length < 50000) : ∀ (m i : Nat) (a : Int) (t : List Int), 0 ≤ a → a ≤ b.length → Laid l m i t → b.drop a.toNat = t → cenotaphlaw07_ItemPuts.l2 100 l b m i a 0 = some true := by
  intro m
  induction m with
  | zero => intro i a t _ _ hl; cases hl
  | succ m ih =>
    intro i a t ha hal hl hd
    rw [cenotaphlaw07_ItemPuts.l2]
    cases hl with
    | stop _ _ h =>
      rw [if_neg h]
      have hlen := congrArg List.length hd
      rw [List.length_drop, List.length_nil] at hlen
      rw [if_neg (show ¬ ((0 : Int) = 0 ∧ a < (b.length : Int)) from fun hh => by omega), if_pos rfl]
    | step _ _ I r h hI ho hr =>
      rw [if_pos h, take_item ho b a ha (by omega) r hd, Option.bind_some]
      dsimp only
      rw [if_pos ⟨rfl, ho.ok⟩, hI, Option.bind_some, if_pos ((It.eq_iff I I).mpr rfl)]
      have hlen := congrArg List.length hd
      rw [List.length_drop, List.length_append] at hlen
      have hpos : 1 ≤ (encI I).length := by
        have := (enc_len 9 I.k).1
        rw [encI, List.length_append]; omega
      refine ih (i + 1) _ r (by omega) (by omega) hr ?_
      exact adv ha hd
theorem puts_l1 (l : List S46) : ∀ (m i : Nat) (b : List Int), 21 ≤ m + i → 0 < m → m ≤ 21 → b.length ≤ 200 * (21 - m) → (∀ t, Laid l m i t → Laid l 21 0 (b ++ t)) → cenotaphlaw07_ItemPuts.l1 100 l m i b = some true := by
  intro m
  induction m with
  | zero => intro i b _ h; omega
  | succ m ih =>
    intro i b hi _ hm hb hL
    rw [cenotaphlaw07_ItemPuts.l1]
    by_cases hc : i < l.length ∧ i < 20
    · rw [if_pos hc]
      obtain ⟨I, hI, ho⟩ := fixS_ok (rd_T46 l (i : Int))
      rw [hI, Option.bind_some, if_pos ho.ok, put_item ho b (by omega), Option.bind_some]
      have := encI_len ho
      refine ih (i + 1) _ (by omega) (by omega) (by omega) (by rw [List.length_append]; omega) (fun t ht => ?_)
      rw [List.append_assoc]
      exact hL _ (Laid.step m i I t hc hI ho ht)
    · rw [if_neg hc, if_pos (by omega)]
      have h0 := hL [] (Laid.stop m i hc)
      rw [List.append_nil] at h0
      exact puts_l2 l b (by omega) 21 0 0 b (by omega) (by omega) h0 rfl
theorem ItemPuts : cenotaphlaw07_ItemPuts.Pure := by
  intro l0 _ _
  exact ⟨100, puts_l1 l0 21 0 [] (by omega) (by omega) (by omega) (by simp) (fun t ht => ht)⟩
end Go.Proofs.Ytkmhanpamdgnjaa.Pure
