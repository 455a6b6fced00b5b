import Derived.Test.YtkmhanpamdgnjaaTl
import Derived.Test.YtkmhanpamdgnjaaP5
/- What the printed functions of id and of its reference come to, in plain words. -/
namespace Go.Proofs.Ytkmhanpamdgnjaa.Pure
open Go.RowKit Go.Proofs.Ytkmhanpamdgnjaa Go.Proofs.Ytkmhanpamdgnjaa.P Go.Proofs.YtkmhanpamdgnjaaW.PrintWords Go.Proofs.YtkmhanpamdgnjaaW.PrintLast
set_option linter.unusedVariables false
set_option linter.unusedSimpArgs false
theorem bt_get (a : ByteArray) (n : Nat) (h : n < a.size) : bt a (n : Int) = ((a.data.toList.getD n 0).toNat : Int) := by
  unfold bt
  have e : ((n : Int)).toNat = n := Int.toNat_natCast n
  simp only [e, dif_pos h]
  have h2 : n < a.data.toList.length := by simpa using h
  have : a.data.toList.getD n 0 = a.data.toList[n]'h2 := by simp [List.getD, List.getElem?_eq_getElem h2]
  rw [this]; simp; rfl
theorem size_list (a : ByteArray) : a.size = a.data.toList.length := by simp
theorem drop_all (l : List UInt8) (n : Nat) (h : n < l.length) (p : UInt8 → Bool) : (l.drop n).all p = (p (l.getD n 0) && (l.drop (n + 1)).all p) := by
  rw [List.drop_eq_getElem_cons h, List.all_cons]
  simp [List.getD, List.getElem?_eq_getElem h]
theorem ref_right_loop (a : ByteArray) (hs : a.size ≤ 6) (d : Nat) : ∀ (k n : Nat), a.size - n = d → n ≤ a.size → d < k →
    cenotaphref01_Right.l0 k a (n : Int) = some ((a.data.toList.drop n).all okDigit) := by
  induction d with
  | zero =>
    intro k n hd hn hk
    obtain ⟨k, rfl⟩ : ∃ m, k = m + 1 := ⟨k - 1, by omega⟩
    simp only [cenotaphref01_Right.l0]; rw [if_neg (by omega)]
    rw [List.drop_eq_nil_of_le (by rw [← size_list]; omega)]; rfl
  | succ d ih =>
    intro k n hd hn hk
    obtain ⟨k, rfl⟩ : ∃ m, k = m + 1 := ⟨k - 1, by omega⟩
    have hlt : n < a.size := by omega
    simp only [cenotaphref01_Right.l0]; rw [if_pos (by omega), if_pos (by omega), bt_get a n hlt, drop_all _ _ (by rw [← size_list]; exact hlt)]
    generalize a.data.toList.getD n 0 = c
    by_cases hc : okDigit c = true
    · have h1 : 49 ≤ (c.toNat : Int) ∧ (c.toNat : Int) ≤ 57 := by simp [okDigit, UInt8.le_iff_toNat_le] at hc; omega
      rw [if_neg (by omega), if_neg (by omega), wrap_id (by omega) (by omega)]
      have := ih k (n + 1) (by omega) (by omega) (by omega)
      simp only [Int.natCast_add, Int.cast_ofNat_Int] at this
      rw [this, hc]; rfl
    · have h1 : (c.toNat : Int) < 49 ∨ (c.toNat : Int) > 57 := by simp [okDigit, UInt8.le_iff_toNat_le] at hc; omega
      have h2 : okDigit c = false := by simpa using hc
      rw [h2]
      by_cases h3 : (c.toNat : Int) < 49
      · rw [if_pos h3]; rfl
      · rw [if_neg h3, if_pos (by omega)]; rfl
theorem ref_right (a : ByteArray) (k : Nat) (hk : 9 ≤ k) : cenotaphref01_Right.f k a = some (rightB a) := by
  obtain ⟨k, rfl⟩ : ∃ m, k = m + 1 := ⟨k - 1, by omega⟩
  have hs := size_list a
  rw [rightB_eq]
  unfold cenotaphref01_Right.f
  simp only [cenotaphref01_Right.j0]
  by_cases h1 : (a.size : Int) < 1
  · have h0 : a.data.toList = [] := List.eq_nil_of_length_eq_zero (by omega)
    rw [if_pos h1, if_pos trivial, h0]; rfl
  · rw [if_neg h1]
    cases e : a.data.toList with
    | nil => rw [e] at hs; exact absurd hs (by simp only [List.length_nil]; omega)
    | cons c t =>
      rw [e] at hs
      simp only [List.length_cons] at hs
      by_cases h6 : (a.size : Int) > 6
      · rw [if_pos h6, if_pos trivial]; simp only [idL]; rw [decide_eq_false (by omega)]; simp
      · have e0 := bt_get a 0 (by omega)
        rw [e] at e0
        have e1 : bt a 0 = (c.toNat : Int) := e0
        rw [if_neg h6, if_pos (by omega), e1]
        simp only [idL]
        rw [decide_eq_true (show t.length ≤ 5 by omega)]
        by_cases hc : c = 48
        · subst hc
          have := ref_right_loop a (by omega) (a.size - 1) k 1 rfl (by omega) (by omega)
          rw [e] at this
          simpa using this
        · have h3 : (c == 48) = false := by simpa using hc
          have h4 : ((c.toNat : Int) != 48) = true := by
            rw [bne_iff_ne]; intro h; apply hc
            exact UInt8.toNat_inj.mp (by show c.toNat = 48; omega)
          rw [h4, h3]; simp
end Go.Proofs.Ytkmhanpamdgnjaa.Pure
