/- ItemRights: of all items it is told whether they may be, what they are without their text, and their bytes. No condition beyond the statement's own. -/
import Derived.Test.YtkmhanpamdgnjaaItem3
import Derived.Test.YtkmhanpamdgnjaaP10
import Derived.Test.YtkmhanpamdgnjaaGoalItemRights
namespace Go.Proofs.Ytkmhanpamdgnjaa.Pure
open Go.RowKit Go.Proofs.Ytkmhanpamdgnjaa Go.Proofs.Ytkmhanpamdgnjaa.P Go.Proofs.YtkmhanpamdgnjaaW.PrintWords Go.Proofs.YtkmhanpamdgnjaaW.PrintLast
set_option linter.unusedVariables false
theorem rput_i (l : List Int) (hl : l.length < 90000) (n : Int) (h0 : 0 ≤ n) (hn : n ≤ 9223372036854775807) (k : Nat) (hk : 20 < k) : cenotaphref06_Put.f k l n = some (l ++ enc 9 n) := by
  have hm : mx n 0 = n := by unfold mx; split <;> omega
  rw [rput_ok l (by omega) n hn k hk, hm]
theorem near_bnd {x y : Int} {b : Bool} (h : cenotaphlaw07_near.f x y = some b) : b = true → x.natAbs < 2 ^ 53 ∧ y.natAbs < 2 ^ 53 := by
  intro hb
  subst hb
  rw [cenotaphlaw07_near.f] at h
  by_cases a : x < 1099511627776
  · rw [if_pos a] at h
    by_cases b : x > -1099511627776
    · rw [if_pos b] at h
      by_cases c : y < 1099511627776
      · rw [if_pos c] at h
        have d : y > -1099511627776 := of_decide_eq_true (Option.some.inj h)
        omega
      · rw [if_neg c] at h; cases h
    · rw [if_neg b] at h; cases h
  · rw [if_neg a] at h; cases h
theorem near_some (x y : Int) : ∃ b, cenotaphlaw07_near.f x y = some b := by
  rw [cenotaphlaw07_near.f]
  split
  · split
    · split
      · exact ⟨_, rfl⟩
      · exact ⟨_, rfl⟩
    · exact ⟨_, rfl⟩
  · exact ⟨_, rfl⟩
theorem rput_item (I : It) : cenotaphref07_Put.f 100 [7] I.k I.i I.q I.s I.d I.x I.y I.t I.h = some (if rightI I = true then [7] ++ encI I else [7]) := by
  rw [cenotaphref07_Put.f, right_ref I 100 rfl, Option.bind_some]
  cases hr : rightI I with
  | false =>
    rw [if_neg (show ¬ (false = true) by decide), if_neg (show ¬ (false = true) by decide), Option.bind_some]
    rfl
  | true =>
    have h := right_okI hr
    have e1 := enc_len 9 I.k
    have e2 := enc_len 9 (I.i.size : Int)
    have e3 := enc_len 9 I.q
    have e4 := enc_len 9 I.s
    have e6 := enc_len 9 (I.x + 1000)
    have e7 := enc_len 9 (I.y + 1000)
    have e8 := enc_len 9 1
    have e9 := enc_len 9 2
    have b1 := bytesOf_length I.i
    have := h.i1; have := h.t1; have := h.k0; have := h.k1; have := h.q0; have := h.q1; have := h.s0; have := h.s1
    have := h.x0; have := h.x1; have := h.y0; have := h.y1
    rw [if_pos rfl, if_pos rfl]
    rw [rput_i [7] (by decide) I.k (by omega) (by omega) 100 (by omega), Option.bind_some]
    rw [rputtext_ok _ (by simp only [List.length_append, List.length_cons, List.length_nil]; omega) I.i (by omega) 100 (by omega), Option.bind_some]
    rw [rput_i _ (by simp only [List.length_append, List.length_cons, List.length_nil]; omega) I.q (by omega) (by omega) 100 (by omega), Option.bind_some]
    rw [rput_i _ (by simp only [List.length_append, List.length_cons, List.length_nil]; omega) I.s (by omega) (by omega) 100 (by omega), Option.bind_some]
    have hlen : (([7] : List Int) ++ enc 9 I.k ++ enc 9 (I.i.size : Int) ++ bytesOf I.i ++ enc 9 I.q ++ enc 9 I.s).length < 1000 := by
      simp only [List.length_append, List.length_cons, List.length_nil]; omega
    have hpost : ∀ kd : Int, 0 ≤ kd → kd ≤ 2 → (enc 9 kd).length ≤ 10 → cenotaphref07_Put.j0 100 (([7] : List Int) ++ enc 9 I.k ++ enc 9 (I.i.size : Int) ++ bytesOf I.i ++ enc 9 I.q ++ enc 9 I.s) kd I.k I.i I.q I.s I.d I.x I.y I.t I.h = some ((([7] : List Int) ++ enc 9 I.k ++ enc 9 (I.i.size : Int) ++ bytesOf I.i ++ enc 9 I.q ++ enc 9 I.s) ++ (enc 9 kd ++ (enc 9 (I.x + 1000) ++ (enc 9 (I.y + 1000) ++ (if I.h = true then enc 9 I.t.size ++ bytesOf I.t else []))))) := by
      intro kd k0 k1 k2
      generalize (([7] : List Int) ++ enc 9 I.k ++ enc 9 (I.i.size : Int) ++ bytesOf I.i ++ enc 9 I.q ++ enc 9 I.s) = l at hlen
      simp only [cenotaphref07_Put.j0]
      rw [rput_i l (by omega) kd k0 (by omega) 99 (by omega), Option.bind_some]
      rw [wrap_id (i := I.x + 1000) (by omega) (by omega), wrap_id (i := I.y + 1000) (by omega) (by omega)]
      rw [rput_i _ (by simp only [List.length_append]; omega) (I.x + 1000) (by omega) (by omega) 99 (by omega), Option.bind_some]
      rw [rput_i _ (by simp only [List.length_append]; omega) (I.y + 1000) (by omega) (by omega) 99 (by omega), Option.bind_some]
      by_cases hh : I.h = true
      · rw [if_pos hh, if_pos hh, rputtext_ok _ (by simp only [List.length_append]; omega) I.t (by omega) 99 (by omega), Option.bind_some]
        simp only [List.append_assoc]
      · rw [if_neg hh, if_neg hh]
        simp only [List.append_assoc, List.append_nil]
    rw [encI, encT]
    by_cases hd : I.d = true
    · rw [if_pos hd, if_pos hd]
      rw [rput_i _ (by omega) 0 (by omega) (by omega) 100 (by omega), Option.bind_some]
      have hk : itKd I.d I.h = 0 := by rw [itKd, if_pos hd]
      rw [hk]
      simp only [List.append_assoc, List.append_nil]
    · rw [if_neg hd, if_neg hd]
      by_cases hh : I.h = true
      · have hk : itKd I.d I.h = 2 := by rw [itKd, if_neg hd, if_pos hh]
        rw [if_pos hh, hpost 2 (by omega) (by omega) (by omega), hk]
        simp only [List.append_assoc]
      · have hk : itKd I.d I.h = 1 := by rw [itKd, if_neg hd, if_neg hh]
        rw [if_neg hh, hpost 1 (by omega) (by omega) (by omega), hk]
        simp only [List.append_assoc]
theorem put_item7 (I : It) : itPut 100 [7] I = some (if rightI I = true then [7] ++ encI I else [7]) := by
  cases hr : rightI I with
  | false =>
    rw [itPut, right_prog, Option.bind_some, hr, if_pos rfl, if_neg (show ¬ (false = true) by decide)]
    rfl
  | true =>
    rw [put_item (right_okI hr) [7] (by decide), if_pos rfl]
theorem ItemRights : cenotaphlaw07_ItemRights.Pure := by
  intro y0 _
  refine ⟨100, ?_⟩
  generalize y0.f0 = k
  generalize y0.f1.f0 = i
  generalize y0.f1.f1 = q
  generalize y0.f1.f2 = s
  generalize y0.f2 = d
  generalize y0.f3.f0 = x
  generalize y0.f3.f1 = y
  generalize y0.f4 = t
  generalize y0.f5 = h
  obtain ⟨nr, hnr⟩ := near_some x y
  rw [cenotaphlaw07_ItemRights.f, hnr, Option.bind_some]
  cases nr with
  | false => rw [if_pos rfl]
  | true =>
    have hb := near_bnd hnr rfl
    rw [if_neg (show ¬ (true = false) by decide)]
    by_cases hs : 300 < (t.size : Int)
    · rw [if_pos hs]
    · have r1 : itRight k i q s d x y t h = some (rightI ⟨k, i, q, s, d, x, y, t, h⟩) := right_prog ⟨k, i, q, s, d, x, y, t, h⟩
      have r2 : cenotaphref07_Right.f 100 k i q s d x y t h = some (rightI ⟨k, i, q, s, d, x, y, t, h⟩) := right_ref ⟨k, i, q, s, d, x, y, t, h⟩ 100 rfl
      have r3 := put_item7 ⟨k, i, q, s, d, x, y, t, h⟩
      have r4 : cenotaphref07_Put.f 100 [7] k i q s d x y t h = some (if rightI ⟨k, i, q, s, d, x, y, t, h⟩ = true then [7] ++ encI ⟨k, i, q, s, d, x, y, t, h⟩ else [7]) := rput_item ⟨k, i, q, s, d, x, y, t, h⟩
      rw [if_neg hs, r1, Option.bind_some, r2, Option.bind_some, r3, Option.bind_some, r4, Option.bind_some]
      exact if_pos ⟨hb, rfl, rfl⟩
end Go.Proofs.Ytkmhanpamdgnjaa.Pure
