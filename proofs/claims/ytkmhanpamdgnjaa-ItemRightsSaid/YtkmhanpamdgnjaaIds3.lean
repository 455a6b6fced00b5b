import Derived.Test.YtkmhanpamdgnjaaIds
import Derived.Test.YtkmhanpamdgnjaaP4
/- The reference's Fix, in plain words: one that may be, out of any text. -/
namespace Go.Proofs.Ytkmhanpamdgnjaa.Pure
open Go.RowKit Go.Proofs.Ytkmhanpamdgnjaa Go.Proofs.Ytkmhanpamdgnjaa.P Go.Proofs.YtkmhanpamdgnjaaW.PrintWords Go.Proofs.YtkmhanpamdgnjaaW.PrintLast
set_option linter.unusedVariables false
set_option linter.unusedSimpArgs false
def fixD (c : UInt8) : UInt8 := 49 + c % 9
def fixL (l : List UInt8) : List UInt8 := 48 :: (l.take 5).map fixD
def fixB (a : ByteArray) : ByteArray := ⟨(fixL a.data.toList).toArray⟩
theorem fixD_ok (c : UInt8) : okDigit (fixD c) = true := by
  have h : c.toNat % 9 < 9 := Nat.mod_lt _ (by omega)
  simp [okDigit, fixD, UInt8.le_iff_toNat_le, UInt8.toNat_add, UInt8.toNat_mod]; omega
theorem fixL_ok (l : List UInt8) : idL (fixL l) = true := by
  unfold fixL idL
  have h : (l.take 5).length ≤ 5 := List.length_take_le _ _
  simp only [beq_self_eq_true, Bool.true_and, List.length_map, decide_eq_true h]
  rw [List.all_eq_true]
  intro x hx
  obtain ⟨c, _, rfl⟩ := List.mem_map.mp hx
  exact fixD_ok c
theorem digit_at (c : UInt8) : ((⟨#[49, 50, 51, 52, 53, 54, 55, 56, 57]⟩ : ByteArray).extract (c.toNat % 9) (c.toNat % 9 + 1)) = ⟨#[fixD c]⟩ := by
  have h : c.toNat % 9 < 9 := Nat.mod_lt _ (by omega)
  have e : fixD c = UInt8.ofNat (49 + c.toNat % 9) := by
    apply UInt8.toNat_inj.mp
    simp [fixD, UInt8.toNat_add, UInt8.toNat_mod]
  rw [e]
  generalize c.toNat % 9 = j at h ⊢
  match j, h with
  | 0, _ => rfl
  | 1, _ => rfl
  | 2, _ => rfl
  | 3, _ => rfl
  | 4, _ => rfl
  | 5, _ => rfl
  | 6, _ => rfl
  | 7, _ => rfl
  | 8, _ => rfl
theorem bytes_snoc (l : List UInt8) (c : UInt8) : (⟨l.toArray⟩ : ByteArray) ++ (⟨#[c]⟩ : ByteArray) = ⟨(l ++ [c]).toArray⟩ := by
  apply ByteArray.ext; simp
theorem ref_fix_loop (a : ByteArray) (d : Nat) : ∀ (k n : Nat) (l : List UInt8), 5 - n = d → n ≤ a.size → n ≤ 5 → d < k → l.length = n + 1 →
    cenotaphref01_Fix.l0 k a ⟨l.toArray⟩ (n : Int) = some ⟨(l ++ ((a.data.toList.drop n).take d).map fixD).toArray⟩ := by
  have sa := size_list a
  induction d with
  | zero =>
    intro k n l hd hn h5 hk hl
    obtain ⟨k, rfl⟩ : ∃ m, k = m + 1 := ⟨k - 1, by omega⟩
    simp only [cenotaphref01_Fix.l0]
    by_cases h : n < a.size
    · rw [if_pos (by omega), if_neg (by omega)]; simp
    · rw [if_neg (by omega)]; simp
  | succ d ih =>
    intro k n l hd hn h5 hk hl
    obtain ⟨k, rfl⟩ : ∃ m, k = m + 1 := ⟨k - 1, by omega⟩
    simp only [cenotaphref01_Fix.l0]
    by_cases h : n < a.size
    · rw [if_pos (by omega), if_pos (by omega), if_pos (by omega), bt_get a n h]
      have e0 : a.data.toList.drop n = a.data.toList.getD n 0 :: a.data.toList.drop (n + 1) := by
        rw [List.drop_eq_getElem_cons (by omega)]; simp [List.getD, List.getElem?_eq_getElem (show n < a.data.toList.length by omega)]
      rw [e0]
      generalize a.data.toList.getD n 0 = c
      have hm : Int.tmod (c.toNat : Int) 9 = ((c.toNat % 9 : Nat) : Int) := by
        rw [Int.tmod_eq_emod_of_nonneg (by omega)]; rfl
      have h9 : c.toNat % 9 < 9 := Nat.mod_lt _ (by omega)
      have hm2 : (((c.toNat % 9 : Nat) : Int) + 1) % 256 = ((c.toNat % 9 + 1 : Nat) : Int) := by omega
      have hsz : (⟨l.toArray⟩ : ByteArray).size + (⟨#[fixD c]⟩ : ByteArray).size ≤ 9223372036854775807 := by
        show l.toArray.size + 1 ≤ _
        rw [List.size_toArray]; omega
      rw [hm, hm2, if_pos (by omega), if_pos (by omega), if_pos (by omega), Int.toNat_natCast, Int.toNat_natCast, digit_at, if_pos hsz, bytes_snoc, wrap_id (by omega) (by omega)]
      have := ih k (n + 1) (l ++ [fixD c]) (by omega) (by omega) (by omega) (by omega) (by simp; omega)
      simp only [Int.natCast_add, Int.cast_ofNat_Int] at this
      rw [this]; simp
    · rw [if_neg (by omega), List.drop_eq_nil_of_le (by omega)]; simp
theorem ref_fix (a : ByteArray) (k : Nat) (hk : 6 ≤ k) : cenotaphref01_Fix.f k a = some (fixB a) := by
  have := ref_fix_loop a 5 k 0 [48] (by omega) (by omega) (by omega) (by omega) rfl
  unfold cenotaphref01_Fix.f
  simpa [fixB, fixL] using this
theorem fixB_right (a : ByteArray) : rightB (fixB a) = true := by
  rw [rightB_eq]; exact fixL_ok _
end Go.Proofs.Ytkmhanpamdgnjaa.Pure
