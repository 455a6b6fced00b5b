import Derived.Laws.Cover2
import Derived.Laws.Cover3
import Derived.Laws.FloatArith
/- Whole numbers as floats of 64 bits: below 2^53 each is its own float; they are held against each other as numbers are, cut to themselves, and come back. No program in sight. -/
namespace Go.Proofs.Ytgdkgobplinelaa
open Ieee
set_option linter.unusedVariables false
/-- The float of a whole number. -/
def fl (n : Int) : Nat := floatOfInt .f64 n
theorem dLeast : double.leastPlace = -1074 := by decide +kernel
theorem dFrac : (double.fractionBits : Int) = 52 := rfl
theorem dBin : double.binade = 2 ^ 52 := by decide +kernel
theorem dInf : double.infRung = 2047 * 2 ^ 52 := by decide +kernel
theorem dSign : double.signWeight = 2 ^ 63 := by decide +kernel
set_option maxRecDepth 10000
theorem near_word (neg : Bool) (m : Nat) (h0 : 0 < m) (h : m < 2 ^ 53) : double.nearest neg m 0 = double.word neg ((m.log2 + 1022) * 2 ^ 52 + m * 2 ^ (52 - m.log2)) := by
  have hL : m.log2 ≤ 52 := by
    have := (Nat.log2_lt (n := m) (k := 53) (by omega)).mpr h
    omega
  have hm1 : m < 2 ^ (m.log2 + 1) := Nat.lt_log2_self
  have hk : m * 2 ^ (52 - m.log2) < 2 ^ 53 := by
    have h1 : m * 2 ^ (52 - m.log2) < 2 ^ (m.log2 + 1) * 2 ^ (52 - m.log2) := Nat.mul_lt_mul_of_pos_right hm1 (Nat.pow_pos (by omega))
    rw [← Nat.pow_add, show m.log2 + 1 + (52 - m.log2) = 53 by omega] at h1
    exact h1
  unfold Format.nearest
  rw [if_neg (by omega)]
  have e1 : max ((0 : Int) + (m.log2 : Int) - (double.fractionBits : Int)) double.leastPlace = (m.log2 : Int) - 52 := by
    rw [dFrac, dLeast]
    omega
  dsimp only
  rw [e1]
  have e2 : ((0 : Int) - ((m.log2 : Int) - 52)).toNat = 52 - m.log2 := by omega
  have e3 : ((m.log2 : Int) - 52 - 0).toNat = 0 := by omega
  have e4 : ((m.log2 : Int) - 52 - double.leastPlace).toNat = m.log2 + 1022 := by
    rw [dLeast]
    omega
  rw [e2, e3, e4]
  have e5 : Toward.even.cut neg (m <<< (52 - m.log2)) 0 = m * 2 ^ (52 - m.log2) := by
    unfold Toward.cut
    simp [Nat.shiftLeft_eq, Nat.mod_one]
  rw [e5, dBin, dInf, Nat.min_eq_left (by omega)]
theorem read_word (neg : Bool) (L k : Nat) (hL : L ≤ 52) (hk1 : 2 ^ 52 ≤ k) (hk2 : k < 2 ^ 53) : double.read (double.word neg ((L + 1022) * 2 ^ 52 + k)) = .number neg k ((L : Int) - 52) := by
  unfold Format.read Format.word
  rw [dSign, dBin, dInf, dLeast]
  have e1 : (if neg = true then 2 ^ 63 + ((L + 1022) * 2 ^ 52 + k) else (L + 1022) * 2 ^ 52 + k) % 2 ^ 63 = (L + 1022) * 2 ^ 52 + k := by split <;> omega
  have e2 : ((if neg = true then 2 ^ 63 + ((L + 1022) * 2 ^ 52 + k) else (L + 1022) * 2 ^ 52 + k) / 2 ^ 63 % 2 == 1) = neg := by
    cases neg
    · rw [if_neg (by decide)]
      rw [beq_eq_false_iff_ne]; omega
    · rw [if_pos rfl]
      rw [beq_iff_eq]; omega
  dsimp only
  rw [e1, e2, if_neg (by omega), if_pos (by omega)]
  have e3 : ((L + 1022) * 2 ^ 52 + k) / 2 ^ 52 = L + 1023 := by omega
  have e4 : 2 ^ 52 + ((L + 1022) * 2 ^ 52 + k) % 2 ^ 52 = k := by omega
  rw [e3, e4, show (-1074 : Int) + ((L + 1023 - 1 : Nat) : Int) = (L : Int) - 52 by omega]
/-- What a whole number's float stands for. -/
theorem fl_read (n : Int) (h : n.natAbs < 2 ^ 53) : ∃ q : Nat, FloatKind.f64.decode (fl n) = .number (decide (n < 0)) (n.natAbs * 2 ^ q) (-(q : Int)) ∧ q ≤ 1074 := by
  by_cases h0 : n = 0
  · subst h0
    exact ⟨1074, by decide +kernel, by omega⟩
  · have hm : 0 < n.natAbs := by omega
    have hL : n.natAbs.log2 ≤ 52 := by
      have := (Nat.log2_lt (n := n.natAbs) (k := 53) (by omega)).mpr h
      omega
    have hm1 : n.natAbs < 2 ^ (n.natAbs.log2 + 1) := Nat.lt_log2_self
    have hm2 : 2 ^ n.natAbs.log2 ≤ n.natAbs := Nat.log2_self_le (by omega)
    refine ⟨52 - n.natAbs.log2, ?_, by omega⟩
    show double.read (double.nearest (decide (n < 0)) n.natAbs 0) = _
    rw [near_word _ _ hm h, read_word _ _ _ hL]
    · rw [show ((n.natAbs.log2 : Int) - 52) = -((52 - n.natAbs.log2 : Nat) : Int) by omega]
    · have h1 : 2 ^ n.natAbs.log2 * 2 ^ (52 - n.natAbs.log2) ≤ n.natAbs * 2 ^ (52 - n.natAbs.log2) := Nat.mul_le_mul_right _ hm2
      rw [← Nat.pow_add, show n.natAbs.log2 + (52 - n.natAbs.log2) = 52 by omega] at h1
      exact h1
    · have h1 : n.natAbs * 2 ^ (52 - n.natAbs.log2) < 2 ^ (n.natAbs.log2 + 1) * 2 ^ (52 - n.natAbs.log2) := Nat.mul_lt_mul_of_pos_right hm1 (Nat.pow_pos (by omega))
      rw [← Nat.pow_add, show n.natAbs.log2 + 1 + (52 - n.natAbs.log2) = 53 by omega] at h1
      exact h1
theorem signed_abs (n : Int) (q u : Nat) : signed (decide (n < 0)) (n.natAbs * 2 ^ q) u = n * 2 ^ (q + u) := by
  unfold signed
  rw [Nat.shiftLeft_eq, Nat.mul_assoc, ← Nat.pow_add]
  have e : ((n.natAbs * 2 ^ (q + u) : Nat) : Int) = (n.natAbs : Int) * 2 ^ (q + u) := by
    rw [Int.natCast_mul, Int.natCast_pow]; rfl
  by_cases hn : n < 0
  · rw [decide_eq_true hn, if_pos rfl, e, ← Int.neg_mul]
    congr 1
    omega
  · rw [decide_eq_false hn, if_neg (by decide), e]
    congr 1
    omega
theorem fl_order (m n : Int) (hm : m.natAbs < 2 ^ 53) (hn : n.natAbs < 2 ^ 53) : FloatKind.f64.format.order (fl m) (fl n) = some (compare m n) := by
  obtain ⟨p, hp, -⟩ := fl_read m hm
  obtain ⟨q, hq, -⟩ := fl_read n hn
  show (FloatKind.f64.decode (fl m)).order (FloatKind.f64.decode (fl n)) = _
  rw [hp, hq]
  unfold Datum.order
  dsimp only
  rw [signed_abs, signed_abs]
  have e1 : p + (-(p : Int) - min (-(p : Int)) (-(q : Int))).toNat = max p q := by omega
  have e2 : q + (-(q : Int) - min (-(p : Int)) (-(q : Int))).toNat = max p q := by omega
  rw [e1, e2]
  have hpos : (0 : Int) < 2 ^ max p q := Int.pow_pos (by omega)
  generalize (2 : Int) ^ max p q = c at hpos
  congr 1
  simp only [compare, compareOfLessAndEq]
  by_cases h1 : m < n
  · rw [if_pos (Int.mul_lt_mul_of_pos_right h1 hpos), if_pos h1]
  · rw [if_neg h1, if_neg (fun h => h1 (Int.lt_of_mul_lt_mul_right h (Int.le_of_lt hpos)))]
    by_cases h2 : m = n
    · subst h2
      rw [if_pos rfl, if_pos rfl]
    · rw [if_neg h2, if_neg (fun h => h2 (Int.eq_of_mul_eq_mul_right (by omega) h))]
theorem fl_eq (m n : Int) (hm : m.natAbs < 2 ^ 53) (hn : n.natAbs < 2 ^ 53) : (FloatKind.f64.format.order (fl m) (fl n) == some .eq) = decide (m = n) := by
  rw [fl_order m n hm hn]
  by_cases h : m = n
  · subst h
    simp [compare, compareOfLessAndEq]
  · rw [decide_eq_false h]
    simp only [compare, compareOfLessAndEq]
    by_cases h1 : m < n
    · rw [if_pos h1]; rfl
    · rw [if_neg h1, if_neg h]; rfl
theorem fl_le (m n : Int) (hm : m.natAbs < 2 ^ 53) (hn : n.natAbs < 2 ^ 53) : (FloatKind.f64.format.order (fl m) (fl n) == some .lt || FloatKind.f64.format.order (fl m) (fl n) == some .eq) = decide (m ≤ n) := by
  rw [fl_order m n hm hn]
  simp only [compare, compareOfLessAndEq]
  by_cases h1 : m < n
  · rw [if_pos h1, decide_eq_true (by omega)]; rfl
  · rw [if_neg h1]
    by_cases h2 : m = n
    · rw [if_pos h2, decide_eq_true (by omega)]; rfl
    · rw [if_neg h2, decide_eq_false (by omega)]; rfl
theorem fl_ge (m n : Int) (hm : m.natAbs < 2 ^ 53) (hn : n.natAbs < 2 ^ 53) : (FloatKind.f64.format.order (fl m) (fl n) == some .gt || FloatKind.f64.format.order (fl m) (fl n) == some .eq) = decide (n ≤ m) := by
  rw [fl_order m n hm hn]
  simp only [compare, compareOfLessAndEq]
  by_cases h1 : m < n
  · rw [if_pos h1, decide_eq_false (by omega)]; rfl
  · rw [if_neg h1]
    by_cases h2 : m = n
    · rw [if_pos h2, decide_eq_true (by omega)]; rfl
    · rw [if_neg h2, decide_eq_true (by omega)]; rfl
theorem cut_zero (neg : Bool) (m q : Nat) : Toward.zero.cut neg (m * 2 ^ q) q = m := by
  unfold Toward.cut
  simp only [Bool.toNat_false, Nat.add_zero, Nat.shiftLeft_eq, Nat.one_mul]
  by_cases hm : m = 0
  · subst hm; simp
  · have hle : q ≤ (m * 2 ^ q).log2 := by
      have h0 : m * 2 ^ q ≠ 0 := by
        have := Nat.pow_pos (n := q) (show 0 < 2 by omega)
        exact Nat.mul_ne_zero hm (by omega)
      rw [Nat.le_log2 h0]
      exact Nat.le_mul_of_pos_left _ (by omega)
    rw [Nat.min_eq_left (by omega), Nat.mul_div_cancel _ (Nat.pow_pos (by omega))]
theorem fl_integral (n : Int) (h : n.natAbs < 2 ^ 53) : (FloatKind.f64.decode (fl n)).integral .zero = .number (decide (n < 0)) n.natAbs 0 := by
  obtain ⟨q, hq, -⟩ := fl_read n h
  rw [hq]
  unfold Datum.integral
  dsimp only
  have e1 : (-(q : Int)).toNat = 0 := by omega
  have e2 : (-(-(q : Int))).toNat = q := by omega
  rw [e1, e2, Nat.shiftLeft_zero, cut_zero]
theorem fl_int (n : Int) (h : n.natAbs < 2 ^ 53) : floatToIntVal .f64 (fl n) .i64 = some n := by
  unfold floatToIntVal Datum.toInt
  rw [fl_integral n h]
  dsimp only
  have e : signed (decide (n < 0)) n.natAbs 0 = n := by
    have := signed_abs n 0 0
    rw [Nat.pow_zero, Nat.mul_one] at this
    rw [this]; simp
  rw [e]
  rw [if_pos]
  refine ⟨?_, ?_⟩
  · show (-9223372036854775808 : Int) ≤ n
    omega
  · show n ≤ (9223372036854775807 : Int)
    omega
theorem fl_back (n : Int) (h : n.natAbs < 2 ^ 53) : FloatKind.f64.encode ((FloatKind.f64.decode (fl n)).integral .zero) = fl n := by
  rw [fl_integral n h]
  rfl
end Go.Proofs.Ytgdkgobplinelaa
