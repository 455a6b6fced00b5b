import Derived.Test.YtkmhanpamdgnjaaIds
import Derived.Test.YtkmhanpamdgnjaaP6
import Derived.Test.YtkmhanpamdgnjaaP2
/- The reference's order, in plain words. -/
namespace Go.Proofs.Ytkmhanpamdgnjaa.Pure
open Go.RowKit Go.Proofs.Ytkmhanpamdgnjaa Go.Proofs.Ytkmhanpamdgnjaa.P Go.Proofs.YtkmhanpamdgnjaaW.PrintWords Go.Proofs.YtkmhanpamdgnjaaW.PrintLast
set_option linter.unusedVariables false
set_option linter.unusedSimpArgs false
theorem drop_cons (l : List UInt8) (n : Nat) (h : n < l.length) : l.drop n = l.getD n 0 :: l.drop (n + 1) := by
  rw [List.drop_eq_getElem_cons h]; simp [List.getD, List.getElem?_eq_getElem h]
theorem cmp_cons (x y : UInt8) (a b : List UInt8) : Lib.compareBytes (x :: a) (y :: b) = if x < y then -1 else if y < x then 1 else Lib.compareBytes a b := rfl
theorem ref_compare_loop (a b : ByteArray) (ha : a.size ≤ 9223372036854775807) (d : Nat) : ∀ (k n : Nat), a.size - n = d → n ≤ a.size → n ≤ b.size → 2 * d + 1 < k →
    cenotaphref01_Compare.l0 k a b (n : Int) = some (Lib.compareBytes (a.data.toList.drop n) (b.data.toList.drop n)) := by
  have sa := size_list a; have sb := size_list b
  induction d with
  | zero =>
    intro k n hd hn hb hk
    obtain ⟨k, rfl⟩ : ∃ m, k = m + 2 := ⟨k - 2, by omega⟩
    have e1 : a.data.toList.drop n = [] := List.drop_eq_nil_of_le (by omega)
    simp only [cenotaphref01_Compare.l0]; rw [if_neg (by omega)]
    simp only [cenotaphref01_Compare.j1]; rw [if_neg (by simp), e1]
    by_cases h : n < b.size
    · rw [if_pos (by omega), drop_cons _ _ (by omega)]; rfl
    · rw [if_neg (by omega), if_neg (by omega), List.drop_eq_nil_of_le (by omega)]; rfl
  | succ d ih =>
    intro k n hd hn hb hk
    obtain ⟨k, rfl⟩ : ∃ m, k = m + 2 := ⟨k - 2, by omega⟩
    have hlt : n < a.size := by omega
    simp only [cenotaphref01_Compare.l0]; rw [if_pos (by omega)]
    simp only [cenotaphref01_Compare.j1]
    rw [drop_cons a.data.toList n (by omega)]
    by_cases h : n < b.size
    · have hw := ih k (n + 1) (by omega) (by omega) (by omega) (by omega)
      simp only [Int.natCast_add, Int.cast_ofNat_Int] at hw
      rw [decide_eq_true (by omega), if_pos rfl, if_pos (by omega), if_pos (by omega), if_pos (by omega), bt_get a n hlt, bt_get b n h, drop_cons b.data.toList n (by omega), wrap_id (by omega) (by omega), hw]
      generalize a.data.toList.getD n 0 = x
      generalize b.data.toList.getD n 0 = y
      rw [cmp_cons]
      by_cases h1 : x < y
      · have : (x.toNat : Int) < y.toNat := by have := UInt8.lt_iff_toNat_lt.mp h1; omega
        rw [if_pos this, if_pos h1]
      · have n1 : ¬ (x.toNat : Int) < y.toNat := by intro h; exact h1 (UInt8.lt_iff_toNat_lt.mpr (by omega))
        rw [if_neg n1, if_neg h1]
        by_cases h2 : y < x
        · have : (x.toNat : Int) > y.toNat := by have := UInt8.lt_iff_toNat_lt.mp h2; omega
          rw [if_pos this, if_pos h2]
        · have n2 : ¬ (x.toNat : Int) > y.toNat := by intro h; exact h2 (UInt8.lt_iff_toNat_lt.mpr (by omega))
          rw [if_neg n2, if_neg h2]
    · rw [decide_eq_false (by omega), if_neg (by simp), if_neg (by omega), if_pos (by omega), List.drop_eq_nil_of_le (by omega : b.data.toList.length ≤ n)]; rfl
theorem ref_compare (a b : ByteArray) (k : Nat) (ha : a.size ≤ 9223372036854775807) (hk : 2 * a.size + 2 ≤ k) : cenotaphref01_Compare.f k a b = some (Lib.compareBytes a.data.toList b.data.toList) := by
  have := ref_compare_loop a b ha a.size k 0 (by omega) (by omega) (by omega) (by omega)
  unfold cenotaphref01_Compare.f
  simpa using this
theorem id_compare (a b : ByteArray) : id_Compare.f a b = some (Lib.compareBytes a.data.toList b.data.toList) := rfl
end Go.Proofs.Ytkmhanpamdgnjaa.Pure
