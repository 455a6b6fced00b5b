/- StoreOrders: items that come in two orders leave the same: the newest of each key, Held, if one of its version was. No condition beyond the statement's own. -/
import Derived.Test.YtgdkgobplinelaaTl
import Derived.Test.YtgdkgobplinelaaOrdB
import Derived.Test.YtgdkgobplinelaaP6
import Derived.Lib.Strings
import Derived.Test.YtgdkgobplinelaaOrdI
import Derived.Test.YtgdkgobplinelaaP0
import Derived.Test.YtgdkgobplinelaaP1
import Derived.Test.YtgdkgobplinelaaP7
import Derived.Test.YtgdkgobplinelaaP8
import Derived.Test.YtgdkgobplinelaaP9
import Derived.Test.YtgdkgobplinelaaP2
import Derived.Test.YtgdkgobplinelaaP5
import Derived.Test.YtgdkgobplinelaaP17
import Derived.Test.YtgdkgobplinelaaP18A
import Derived.Test.YtgdkgobplinelaaGoalStoreOrders
/- Names' bytes, read by number. -/
namespace Go.Proofs.Ytgdkgobplinelaa.Pure
open Go.RowKit Go.Proofs.Ytgdkgobplinelaa Go.Proofs.Ytgdkgobplinelaa.P Go.Proofs.YtgdkgobplinelaaW.PrintWords Go.Proofs.YtgdkgobplinelaaW.PrintLast
set_option linter.unusedVariables false
set_option linter.unusedSimpArgs false
theorem bt_get (a : ByteArray) (n : Nat) (h : n < a.size) : bt a (n : Int) = ((a.data.toList.getD n 0).toNat : Int) := by
 unfold bt
 have e : ((n : Int)).toNat = n := Int.toNat_natCast n
 simp only [e, dif_pos h]
 have h2 : n < a.data.toList.length := by simpa using h
 have : a.data.toList.getD n 0 = a.data.toList[n]'h2 := by simp [List.getD, List.getElem?_eq_getElem h2]
 rw [this]; simp; rfl
theorem size_list (a : ByteArray) : a.size = a.data.toList.length := by simp
theorem drop_cons (l : List UInt8) (n : Nat) (h : n < l.length) : l.drop n = l.getD n 0 :: l.drop (n + 1) := by
 rw [List.drop_eq_getElem_cons h]; simp [List.getD, List.getElem?_eq_getElem h]
theorem cmp_cons (x y : UInt8) (a b : List UInt8) : Lib.compareBytes (x :: a) (y :: b) = if x < y then -1 else if y < x then 1 else Lib.compareBytes a b := rfl
theorem ref_compare_loop (a b : ByteArray) (ha : a.size ≤ 9223372036854775807) (d : Nat) : ∀ (k n : Nat), a.size - n = d → n ≤ a.size → n ≤ b.size → 2 * d + 1 < k →
  cenotaphref01_Compare.l0 k a b (n : Int) = some (Lib.compareBytes (a.data.toList.drop n) (b.data.toList.drop n)) := by
 have sa := size_list a; have sb := size_list b
 induction d with
 | zero =>
  intro k n hd hn hb hk
  obtain ⟨k, rfl⟩ : ∃ m, k = m + 2 := ⟨k - 2, by omega⟩
  have e1 : a.data.toList.drop n = [] := List.drop_eq_nil_of_le (by omega)
  simp only [cenotaphref01_Compare.l0]; rw [if_neg (by omega)]
  simp only [cenotaphref01_Compare.j1]; rw [if_neg (by simp), e1]
  by_cases h : n < b.size
  ·rw [if_pos (by omega), drop_cons _ _ (by omega)]; rfl
  ·rw [if_neg (by omega), if_neg (by omega), List.drop_eq_nil_of_le (by omega)]; rfl
 | succ d ih =>
  intro k n hd hn hb hk
  obtain ⟨k, rfl⟩ : ∃ m, k = m + 2 := ⟨k - 2, by omega⟩
  have hlt : n < a.size := by omega
  simp only [cenotaphref01_Compare.l0]; rw [if_pos (by omega)]
  simp only [cenotaphref01_Compare.j1]
  rw [drop_cons a.data.toList n (by omega)]
  by_cases h : n < b.size
  ·have hw := ih k (n + 1) (by omega) (by omega) (by omega) (by omega)
   simp only [Int.natCast_add, Int.cast_ofNat_Int] at hw
   rw [decide_eq_true (by omega), if_pos rfl, if_pos (by omega), if_pos (by omega), if_pos (by omega), bt_get a n hlt, bt_get b n h, drop_cons b.data.toList n (by omega), wrap_id (by omega) (by omega), hw]
   generalize a.data.toList.getD n 0 = x
   generalize b.data.toList.getD n 0 = y
   rw [cmp_cons]
   by_cases h1 : x < y
   ·have : (x.toNat : Int) < y.toNat := by have := UInt8.lt_iff_toNat_lt.mp h1; omega
    rw [if_pos this, if_pos h1]
   ·have n1 : ¬ (x.toNat : Int) < y.toNat := by intro h; exact h1 (UInt8.lt_iff_toNat_lt.mpr (by omega))
    rw [if_neg n1, if_neg h1]
    by_cases h2 : y < x
    ·have : (x.toNat : Int) > y.toNat := by have := UInt8.lt_iff_toNat_lt.mp h2; omega
     rw [if_pos this, if_pos h2]
    ·have n2 : ¬ (x.toNat : Int) > y.toNat := by intro h; exact h2 (UInt8.lt_iff_toNat_lt.mpr (by omega))
     rw [if_neg n2, if_neg h2]
  ·rw [decide_eq_false (by omega), if_neg (by simp), if_neg (by omega), if_pos (by omega), List.drop_eq_nil_of_le (by omega : b.data.toList.length ≤ n)]; rfl
theorem ref_compare (a b : ByteArray) (k : Nat) (ha : a.size ≤ 9223372036854775807) (hk : 2 * a.size + 2 ≤ k) : cenotaphref01_Compare.f k a b = some (Lib.compareBytes a.data.toList b.data.toList) := by
 have := ref_compare_loop a b ha a.size k 0 (by omega) (by omega) (by omega) (by omega)
 unfold cenotaphref01_Compare.f
 simpa using this
def fixD (c : UInt8) : UInt8 := 49 + c % 9
def fixL (l : List UInt8) : List UInt8 := 48 :: (l.take 5).map fixD
def fixB (a : ByteArray) : ByteArray := ⟨(fixL a.data.toList).toArray⟩
theorem fixD_ok (c : UInt8) : okDigit (fixD c) = true := by
 have h : c.toNat % 9 < 9 := Nat.mod_lt _ (by omega)
 simp [okDigit, fixD, UInt8.le_iff_toNat_le, UInt8.toNat_add, UInt8.toNat_mod]; omega
theorem fixL_ok (l : List UInt8) : idL (fixL l) = true := by
 unfold fixL idL
 have h : (l.take 5).length ≤ 5 := List.length_take_le _ _
 simp only [beq_self_eq_true, Bool.true_and, List.length_map, decide_eq_true h]
 rw [List.all_eq_true]
 intro x hx
 obtain ⟨c, _, rfl⟩ := List.mem_map.mp hx
 exact fixD_ok c
theorem digit_at (c : UInt8) : ((⟨#[49, 50, 51, 52, 53, 54, 55, 56, 57]⟩ : ByteArray).extract (c.toNat % 9) (c.toNat % 9 + 1)) = ⟨#[fixD c]⟩ := by
 have h : c.toNat % 9 < 9 := Nat.mod_lt _ (by omega)
 have e : fixD c = UInt8.ofNat (49 + c.toNat % 9) := by
  apply UInt8.toNat_inj.mp
  simp [fixD, UInt8.toNat_add, UInt8.toNat_mod]
 rw [e]
 generalize c.toNat % 9 = j at h ⊢
 match j, h with
 | 0, _ => rfl
 | 1, _ => rfl
 | 2, _ => rfl
 | 3, _ => rfl
 | 4, _ => rfl
 | 5, _ => rfl
 | 6, _ => rfl
 | 7, _ => rfl
 | 8, _ => rfl
theorem bytes_snoc (l : List UInt8) (c : UInt8) : (⟨l.toArray⟩ : ByteArray) ++ (⟨#[c]⟩ : ByteArray) = ⟨(l ++ [c]).toArray⟩ := by
 apply ByteArray.ext; simp
theorem ref_fix_loop (a : ByteArray) (d : Nat) : ∀ (k n : Nat) (l : List UInt8), 5 - n = d → n ≤ a.size → n ≤ 5 → d < k → l.length = n + 1 →
  cenotaphref01_Fix.l0 k a ⟨l.toArray⟩ (n : Int) = some ⟨(l ++ ((a.data.toList.drop n).take d).map fixD).toArray⟩ := by
 have sa := size_list a
 induction d with
 | zero =>
  intro k n l hd hn h5 hk hl
  obtain ⟨k, rfl⟩ : ∃ m, k = m + 1 := ⟨k - 1, by omega⟩
  simp only [cenotaphref01_Fix.l0]
  by_cases h : n < a.size
  ·rw [if_pos (by omega), if_neg (by omega)]; simp
  ·rw [if_neg (by omega)]; simp
 | succ d ih =>
  intro k n l hd hn h5 hk hl
  obtain ⟨k, rfl⟩ : ∃ m, k = m + 1 := ⟨k - 1, by omega⟩
  simp only [cenotaphref01_Fix.l0]
  by_cases h : n < a.size
  ·rw [if_pos (by omega), if_pos (by omega), if_pos (by omega), bt_get a n h]
   have e0 : a.data.toList.drop n = a.data.toList.getD n 0 :: a.data.toList.drop (n + 1) := by
    rw [List.drop_eq_getElem_cons (by omega)]; simp [List.getD, List.getElem?_eq_getElem (show n < a.data.toList.length by omega)]
   rw [e0]
   generalize a.data.toList.getD n 0 = c
   have hm : Int.tmod (c.toNat : Int) 9 = ((c.toNat % 9 : Nat) : Int) := by
    rw [Int.tmod_eq_emod_of_nonneg (by omega)]; rfl
   have h9 : c.toNat % 9 < 9 := Nat.mod_lt _ (by omega)
   have hm2 : (((c.toNat % 9 : Nat) : Int) + 1) % 256 = ((c.toNat % 9 + 1 : Nat) : Int) := by omega
   have hsz : (⟨l.toArray⟩ : ByteArray).size + (⟨#[fixD c]⟩ : ByteArray).size ≤ 9223372036854775807 := by
    show l.toArray.size + 1 ≤ _
    rw [List.size_toArray]; omega
   rw [hm, hm2, if_pos (by omega), if_pos (by omega), if_pos (by omega), Int.toNat_natCast, Int.toNat_natCast, digit_at, if_pos hsz, bytes_snoc, wrap_id (by omega) (by omega)]
   have := ih k (n + 1) (l ++ [fixD c]) (by omega) (by omega) (by omega) (by omega) (by simp; omega)
   simp only [Int.natCast_add, Int.cast_ofNat_Int] at this
   rw [this]; simp
  ·rw [if_neg (by omega), List.drop_eq_nil_of_le (by omega)]; simp
theorem ref_fix (a : ByteArray) (k : Nat) (hk : 6 ≤ k) : cenotaphref01_Fix.f k a = some (fixB a) := by
 have := ref_fix_loop a 5 k 0 [48] (by omega) (by omega) (by omega) (by omega) rfl
 unfold cenotaphref01_Fix.f
 simpa [fixB, fixL] using this
theorem fixB_right (a : ByteArray) : rightB (fixB a) = true := by
 rw [rightB_eq]; exact fixL_ok _
abbrev RI : Type := S28
abbrev PI : Type := S41
/-- An item that may be. -/
structure OkIt (x : RI) : Prop where
 k0 : 0 ≤ x.f0
 k1 : x.f0 ≤ 31
 i0 : rightB x.f1.f0 = true
 i1 : x.f1.f0.size ≤ 6
 q0 : 1 ≤ x.f1.f1
 q1 : x.f1.f1 ≤ 1048576
 s0 : 1 ≤ x.f1.f2
 s1 : x.f1.f2 ≤ 1048576
 x0 : -1000 ≤ x.f3.f0
 x1 : x.f3.f0 ≤ 1000
 y0 : -1000 ≤ x.f3.f1
 y1 : x.f3.f1 ≤ 1000
 t1 : x.f4.size ≤ 16
 d1 : x.f2 = true → x.f5 = false ∧ x.f3.f0 = 0 ∧ x.f3.f1 = 0
 h1 : x.f5 = false → x.f4 = ⟨#[]⟩
theorem u64_mod (x m : Int) (hm : 0 < m) : 0 ≤ Int.tmod (IntKind.u64.wrap x) m ∧ Int.tmod (IntKind.u64.wrap x) m < m := by
 have h0 : 0 ≤ IntKind.u64.wrap x := by
  simp only [IntKind.wrap, IntKind.signed, IntKind.bits]
  simp
  omega
 rw [Int.tmod_eq_emod_of_nonneg h0]
 exact ⟨Int.emod_nonneg _ (by omega), Int.emod_lt_of_pos _ hm⟩
theorem fixB_size (a : ByteArray) : (fixB a).size ≤ 6 := by
 have h : (fixB a).size = (fixL a.data.toList).length := by simp [fixB, ByteArray.size]
 rw [h, fixL, List.length_cons, List.length_map, List.length_take]
 omega
/-- What Fix makes of any item. -/
theorem fix_ok (a0_0 : Int) (a0_1 : ByteArray) (a0_2 a0_3 : Int) (a0_4 : Bool) (a0_5 a0_6 : Int) (a0_7 : ByteArray) (a0_8 : Bool) : ∃ x : RI, OkIt x ∧ ∀ k, 6 ≤ k → cenotaphref07_Fix.f k a0_0 a0_1 a0_2 a0_3 a0_4 a0_5 a0_6 a0_7 a0_8 = some (x.f0, x.f1.f0, x.f1.f1, x.f1.f2, x.f2, x.f3.f0, x.f3.f1, x.f4, x.f5) := by
 refine ⟨⟨_, ⟨_, _, _⟩, _, ⟨_, _⟩, _, _⟩, ?_, fun k hk => by
  rw [cenotaphref07_Fix.f, ref_fix a0_1 k hk, Option.bind_some, cenotaphref05_Spot.f, Option.bind_some]⟩
 have m1 := u64_mod a0_0 32 (by omega)
 have m2 := u64_mod a0_2 60 (by omega)
 have m3 := u64_mod a0_3 60 (by omega)
 have m4 := u64_mod a0_5 2001 (by omega)
 have m5 := u64_mod a0_6 2001 (by omega)
 generalize Int.tmod (IntKind.u64.wrap a0_0) 32 = n1 at m1 ⊢
 generalize Int.tmod (IntKind.u64.wrap a0_2) 60 = n2 at m2 ⊢
 generalize Int.tmod (IntKind.u64.wrap a0_3) 60 = n3 at m3 ⊢
 generalize Int.tmod (IntKind.u64.wrap a0_5) 2001 = n4 at m4 ⊢
 generalize Int.tmod (IntKind.u64.wrap a0_6) 2001 = n5 at m5 ⊢
 have w1 : wrap64 n1 = n1 := wrap_id (by omega) (by omega)
 have w2 : wrap64 (1 + wrap64 n2) = 1 + n2 := by rw [wrap_id (i := n2) (by omega) (by omega), wrap_id (by omega) (by omega)]
 have w3 : wrap64 (1 + wrap64 n3) = 1 + n3 := by rw [wrap_id (i := n3) (by omega) (by omega), wrap_id (by omega) (by omega)]
 have w4 : wrap64 (wrap64 n4 - 1000) = n4 - 1000 := by rw [wrap_id (i := n4) (by omega) (by omega), wrap_id (by omega) (by omega)]
 have w5 : wrap64 (wrap64 n5 - 1000) = n5 - 1000 := by rw [wrap_id (i := n5) (by omega) (by omega), wrap_id (by omega) (by omega)]
 have hm : (a0_7.extract 0 ((mn (a0_7.size : Int) 16) : Int).toNat).size ≤ 16 := by
  have e : (a0_7.extract 0 ((mn (a0_7.size : Int) 16) : Int).toNat).size ≤ ((mn (a0_7.size : Int) 16) : Int).toNat := by
   rw [ByteArray.size_extract]; omega
  have : mn (a0_7.size : Int) 16 ≤ 16 := by unfold mn; split <;> omega
  omega
 constructor
 all_goals dsimp only
 ·rw [w1]; omega
 ·rw [w1]; omega
 ·exact fixB_right a0_1
 ·exact fixB_size a0_1
 ·rw [w2]; omega
 ·rw [w2]; omega
 ·rw [w3]; omega
 ·rw [w3]; omega
 ·rw [w4]; split <;> omega
 ·rw [w4]; split <;> omega
 ·rw [w5]; split <;> omega
 ·rw [w5]; split <;> omega
 ·split
  ·exact hm
  ·show 0 ≤ 16; omega
 ·intro hd; rw [if_pos hd, if_pos hd, if_pos hd]; exact ⟨rfl, rfl, rfl⟩
 ·intro hh
  rw [if_neg]
  rintro ⟨h1, h2⟩
  rw [if_neg (by rw [h2]; decide), h1] at hh
  cases hh
/-- Does one win? -/
def newZ (i : ByteArray) (s : Int) (j : ByteArray) (t : Int) : Bool := if s = t then decide (cmpB i j > 0) else decide (s > t)
theorem item_newer (i : ByteArray) (q s : Int) (j : ByteArray) (p t : Int) : item_Newer.f i q s j p t = some (newZ i s j t) := by
 rw [item_Newer.f, newZ]
 by_cases h : s = t
 ·rw [if_pos h, if_pos h]; rfl
 ·rw [if_neg h, if_neg h]
theorem ref_newer (i : ByteArray) (q s : Int) (j : ByteArray) (p t : Int) (k : Nat) (hi : i.size ≤ 9223372036854775807) (hk : 2 * i.size + 2 ≤ k) : cenotaphref07_Newer.f k i q s j p t = some (newZ i s j t) := by
 rw [cenotaphref07_Newer.f, newZ]
 by_cases h : s = t
 ·rw [if_neg (by omega), if_pos h, if_pos h, ref_compare i j k hi hk]; rfl
 ·rw [if_neg h]
  by_cases h2 : s > t
  ·rw [if_pos h2, if_neg h, decide_eq_true h2]
  ·rw [if_neg h2, if_neg h, decide_eq_false h2]
theorem newZ_self (i : ByteArray) (s : Int) : newZ i s i s = false := by
 rw [newZ, if_pos rfl, cmpB_zero.mpr rfl]; decide
theorem newZ_not_both (i : ByteArray) (s : Int) (j : ByteArray) (t : Int) (h : newZ i s j t = true) : newZ j t i s = false := by
 rw [newZ] at h ⊢
 by_cases e : s = t
 ·rw [if_pos e] at h
  rw [if_pos e.symm, cmpB_neg]
  simp only [decide_eq_true_eq, decide_eq_false_iff_not] at h ⊢
  omega
 ·rw [if_neg e] at h
  rw [if_neg (Ne.symm e)]
  simp only [decide_eq_true_eq, decide_eq_false_iff_not] at h ⊢
  omega
theorem newZ_neither (i : ByteArray) (s : Int) (j : ByteArray) (t : Int) (h : newZ i s j t = false) (h2 : newZ j t i s = false) : s = t ∧ i = j := by
 rw [newZ] at h h2
 by_cases e : s = t
 ·rw [if_pos e] at h
  rw [if_pos e.symm, cmpB_neg] at h2
  simp only [decide_eq_false_iff_not] at h h2
  exact ⟨e, cmpB_zero.mp (by omega)⟩
 ·rw [if_neg e] at h
  rw [if_neg (Ne.symm e)] at h2
  simp only [decide_eq_false_iff_not] at h h2
  omega
theorem newZ_trans (i : ByteArray) (s : Int) (j : ByteArray) (t : Int) (l : ByteArray) (u : Int) (h : newZ i s j t = true) (h2 : newZ j t l u = true) : newZ i s l u = true := by
 rw [newZ] at h h2 ⊢
 by_cases e : s = t
 ·subst e
  rw [if_pos rfl] at h
  by_cases e2 : s = u
  ·subst e2
   rw [if_pos rfl] at h2 ⊢
   simp only [decide_eq_true_eq] at h h2 ⊢
   exact gtB.mpr (toB.trans _ _ _ (gtB.mp h2) (gtB.mp h))
  ·rw [if_neg e2] at h2 ⊢
   exact h2
 ·rw [if_neg e] at h
  simp only [decide_eq_true_eq] at h
  by_cases e2 : t = u
  ·subst e2
   rw [if_neg e]
   simpa using h
  ·rw [if_neg e2] at h2
   simp only [decide_eq_true_eq] at h2
   rw [if_neg (by omega)]
   simp only [decide_eq_true_eq]
   omega
/-- An item as the program has it. -/
def toI (x : RI) : PI := ⟨x.f0, ⟨x.f1.f0, x.f1.f1, x.f1.f2⟩, x.f2, cxOf x.f3.f0 x.f3.f1, x.f4, x.f5⟩
theorem toI_f0 (x : RI) : (toI x).f0 = x.f0 := rfl
/-- Its place is near enough to be told. -/
def NearS (x : RI) : Prop := x.f3.f0.natAbs < 2 ^ 53 ∧ x.f3.f1.natAbs < 2 ^ 53
theorem OkIt.near {x : RI} (h : OkIt x) : NearS x := by
 have := h.x0; have := h.x1; have := h.y0; have := h.y1
 exact ⟨by omega, by omega⟩
theorem toI_cx {x : RI} (h : NearS x) : cxInt (toI x).f3 = some (x.f3.f0, x.f3.f1) := cxInt_of h.1 h.2
/-- Does an item give way to another one of its key? -/
def givesS (o x : RI) : Bool := if o.f1.f0 = x.f1.f0 ∧ o.f1.f1 = x.f1.f1 ∧ o.f1.f2 = x.f1.f2 then x.f5 && !o.f5 else !newZ o.f1.f0 o.f1.f2 x.f1.f0 x.f1.f2
theorem baEq (a b : ByteArray) : (a.toList == b.toList) = decide (a = b) := by
 by_cases h : a = b
 ·subst h; simp
 ·rw [decide_eq_false h, beq_eq_false_iff_ne]
  intro hh
  rw [Lib.toList_data, Lib.toList_data] at hh
  exact h (ByteArray.ext (Array.toList_inj.mp hh))
theorem ver_eq (i j : ByteArray) (q p s t : Int) : (i.toList == j.toList && (q == p && (s == t))) = decide (i = j ∧ q = p ∧ s = t) := by
 rw [baEq]
 by_cases h1 : i = j <;> by_cases h2 : q = p <;> by_cases h3 : s = t <;> simp [h1, h2, h3]
abbrev ky : RI → Int := fun x => x.f0
abbrev ltI : Int → Int → Prop := fun a b => a < b
/-- Rising by their keys. -/
abbrev KR (s : List RI) : Prop := KS ltI ky s
/-- An item comes. -/
def putS (s : List RI) (x : RI) : List RI × Bool := match getM ky x.f0 s with
 | none => (putM ltI ky x s, true)
 | some o => if givesS o x = true then (putM ltI ky x s, true) else (s, false)
theorem putS_KR {s : List RI} (h : KR s) (x : RI) : KR (putS s x).1 := by
 unfold putS
 split
 ·exact putM_KS toZ x h
 ·split
  ·exact putM_KS toZ x h
  ·exact h
theorem putS_mem {s : List RI} {x y : RI} (h : y ∈ (putS s x).1) : y = x ∨ y ∈ s := by
 unfold putS at h
 split at h
 ·exact ((mem_putM _ _ _).mp h).imp id (·.1)
 ·split at h
  ·exact ((mem_putM _ _ _).mp h).imp id (·.1)
  ·exact Or.inr h
theorem putS_length (s : List RI) (x : RI) : (putS s x).1.length ≤ s.length + 1 := by
 unfold putS
 split
 ·exact putM_length _ _
 ·split
  ·exact putM_length _ _
  ·exact Nat.le_succ _
theorem rdR (s : List RI) (n : Nat) : rd_T28 s (n : Int) = s.getD n z28 := by
 unfold rd_T28; rw [Int.toNat_natCast]
theorem rdP (s : List PI) (n : Nat) : rd_T41 s (n : Int) = s.getD n z41 := by
 unfold rd_T41; rw [Int.toNat_natCast]
theorem key_at (s : List RI) (i : Nat) : ((s.map toI).getD i z41).f0 = (s.getD i z28).f0 := by
 by_cases h : i < s.length
 ·simp [List.getD, h, toI]
 ·simp [List.getD, h]; rfl
theorem toI_at (s : List RI) (i : Nat) (h : i < s.length) : (s.map toI).getD i z41 = toI s[i] := by
 simp [List.getD, h]
theorem sN_to (s : List RI) (a : Int) : sN (s.map toI) a = bsN (fun i => cmpI (ky (s.getD i z28)) a) s.length := by
 unfold sN; rw [List.length_map]; congr 1; funext i; rw [key_at]
theorem sB_to (s : List RI) (a : Int) : sB (s.map toI) a = bsB (fun i => cmpI (ky (s.getD i z28)) a) s.length := by
 unfold sB; rw [List.length_map]; congr 1; funext i; rw [key_at]
/-- The search's place, told over what the document has. -/
theorem find_to {s : List RI} (h : KR s) (a : Int) :
  (sB (s.map toI) a = true → ∃ hi : sN (s.map toI) a < s.length, ky s[sN (s.map toI) a] = a ∧ getM ky a s = some s[sN (s.map toI) a]) ∧
  (sB (s.map toI) a = false → getM ky a s = none ∧ sN (s.map toI) a ≤ s.length ∧ (∀ x ∈ s.take (sN (s.map toI) a), ky x < a) ∧ ∀ x ∈ s.drop (sN (s.map toI) a), a < ky x) := by
 have := find_specI (key := ky) z28 h a
 rw [← sN_to, ← sB_to] at this
 exact this
def tupP (x : PI) (b : Bool) : Int × ByteArray × Int × Int × Bool × Cx × ByteArray × Bool × Bool := (x.f0, x.f1.f0, x.f1.f1, x.f1.f2, x.f2, x.f3, x.f4, x.f5, b)
def getP (s : List RI) (a : Int) : Int × ByteArray × Int × Int × Bool × Cx × ByteArray × Bool × Bool := match getM ky a s with
 | some x => tupP (toI x) true
 | none => tupP z41 false
theorem own_get {s : List RI} (h : KR s) (hs : s.length ≤ 100000) (a : Int) : store_Get.f (s.map toI) a = some (getP s a) := by
 obtain ⟨h1, h2⟩ := find_to h a
 have hl : (s.map toI).length = s.length := List.length_map _
 rw [store_Get.f, store_find.f, if_pos (by omega), Option.bind_some]
 dsimp only
 cases hb : sB (s.map toI) a with
 | true =>
  obtain ⟨hi, e1, e2⟩ := h1 hb
  rw [if_pos rfl, if_pos (by omega), if_pos (by omega), rdP, toI_at s _ hi, getP, e2]
  rfl
 | false =>
  rw [if_neg (by decide), getP, (h2 hb).1]
  rfl
theorem yields_ok (a0 : Int) (i : ByteArray) (q s : Int) (a4 : Bool) (a5 : Cx) (a6 : ByteArray) (h : Bool) (b0 : Int) (j : ByteArray) (p t : Int) (b4 : Bool) (b5 : Cx) (b6 : ByteArray) (g : Bool) :
  store_yields.f a0 i q s a4 a5 a6 h b0 j p t b4 b5 b6 g = some (if i = j ∧ q = p ∧ s = t then g && !h else !newZ i s j t) := by
 rw [store_yields.f, ver_eq, item_newer]
 by_cases he : i = j ∧ q = p ∧ s = t
 ·rw [if_pos (decide_eq_true he), if_pos he]
  cases g <;> rfl
 ·rw [decide_eq_false he, if_neg (by decide), if_neg he]
  rfl
theorem own_put {s : List RI} (h : KR s) (hs : s.length ≤ 100000) (x : RI) : store_Put.f (s.map toI) (toI x).f0 (toI x).f1.f0 (toI x).f1.f1 (toI x).f1.f2 (toI x).f2 (toI x).f3 (toI x).f4 (toI x).f5 = some ((putS s x).1.map toI, (putS s x).2) := by
 obtain ⟨h1, h2⟩ := find_to h x.f0
 have hl : (s.map toI).length = s.length := List.length_map _
 rw [store_Put.f, if_pos (by omega)]
 rw [toI_f0]
 unfold putS
 cases hb : sB (s.map toI) x.f0 with
 | true =>
  obtain ⟨hi, e1, e2⟩ := h1 hb
  rw [if_pos rfl, toI_at s _ hi, e2]
  dsimp only
  have hset : (s.map toI).set (sN (s.map toI) x.f0) (toI x) = (putM ltI ky x s).map toI := by
   rw [← putM_set toZ x h hi e1, List.map_set]
  have hy : store_yields.f (toI s[sN (s.map toI) x.f0]).f0 (toI s[sN (s.map toI) x.f0]).f1.f0 (toI s[sN (s.map toI) x.f0]).f1.f1 (toI s[sN (s.map toI) x.f0]).f1.f2 (toI s[sN (s.map toI) x.f0]).f2 (toI s[sN (s.map toI) x.f0]).f3 (toI s[sN (s.map toI) x.f0]).f4 (toI s[sN (s.map toI) x.f0]).f5 x.f0 (toI x).f1.f0 (toI x).f1.f1 (toI x).f1.f2 (toI x).f2 (toI x).f3 (toI x).f4 (toI x).f5 = some (givesS s[sN (s.map toI) x.f0] x) := by
   exact yields_ok _ _ _ _ _ _ _ _ _ _ _ _ _ _ _ _
  rw [hy, Option.bind_some]
  cases givesS s[sN (s.map toI) x.f0] x with
  | true => rw [if_pos rfl, if_pos rfl, ← hset]; rfl
  | false => rw [if_neg (by decide), if_neg (by decide)]
 | false =>
  obtain ⟨e1, e2, e3, e4⟩ := h2 hb
  rw [if_neg (by decide), e1]
  dsimp only
  have := putM_parts toZ x (p := s.take (sN (s.map toI) x.f0)) (q := s.drop (sN (s.map toI) x.f0)) (key := ky) (by rw [List.take_append_drop]; exact h) e3 e4
  rw [List.take_append_drop] at this
  rw [← this, List.map_append, List.map_cons, List.map_take, List.map_drop]
  rfl
/-- More steps tell the same. -/
theorem up_mono {α : Type} {f : Nat → Option α} (hm : ∀ k, LeO (f k) (f (k + 1))) {k0 : Nat} {r : α} (h : f k0 = some r) : ∀ k, k0 ≤ k → f k = some r := by
 intro k hk
 obtain ⟨d, rfl⟩ : ∃ d, k = k0 + d := ⟨k - k0, by omega⟩
 clear hk
 induction d with
 | zero => exact h
 | succ d ih => exact hm _ _ ih
theorem told_ok (k : Nat) (hk : 10 ≤ k) : cenotaphlaw08_told.f k = some true := by
 refine up_mono (f := cenotaphlaw08_told.f) (k0 := 10) (fun k => cenotaphlaw08_told.mono k) ?_ k hk
 kernel_rfl
abbrev nwR (x y : RI) : Bool := newZ x.f1.f0 x.f1.f2 y.f1.f0 y.f1.f2
/-- Of one stamp and name. -/
def One (x y : RI) : Prop := x.f1.f2 = y.f1.f2 ∧ x.f1.f0 = y.f1.f0
/-- One event is of one item. -/
def Cons (L : List RI) : Prop := ∀ x ∈ L, ∀ y ∈ L, One x y → x.f0 = y.f0 ∧ x.f1 = y.f1 ∧ x.f2 = y.f2
theorem nw_self (x : RI) : nwR x x = false := newZ_self _ _
theorem nw_eq {x y z : RI} (h : x.f1 = y.f1) : nwR x z = nwR y z := by unfold nwR; rw [h]
theorem nw_eq' {x y z : RI} (h : x.f1 = y.f1) : nwR z x = nwR z y := by unfold nwR; rw [h]
theorem nw_neither {x y : RI} (h : nwR x y = false) (h2 : nwR y x = false) : One x y := newZ_neither _ _ _ _ h h2
theorem nw_not {z o x : RI} (h1 : nwR z o = false) (h2 : nwR o x = false) : nwR z x = false := by
 cases hz : nwR z x with
 | false => rfl
 | true =>
  exfalso
  cases ho : nwR o z with
  | true =>
   have := newZ_trans _ _ _ _ _ _ ho hz
   have h2' : newZ o.f1.f0 o.f1.f2 x.f1.f0 x.f1.f2 = false := h2
   rw [h2'] at this; cases this
  | false =>
   obtain ⟨a, b⟩ := nw_neither h1 ho
   have : nwR z x = nwR o x := by unfold nwR; rw [a, b]
   rw [this, h2] at hz; cases hz
theorem ver_of {x y : RI} (h : x.f1 = y.f1) : x.f1.f0 = y.f1.f0 ∧ x.f1.f1 = y.f1.f1 ∧ x.f1.f2 = y.f1.f2 := by rw [h]; exact ⟨rfl, rfl, rfl⟩
theorem ver_to {x y : RI} (h : x.f1.f0 = y.f1.f0 ∧ x.f1.f1 = y.f1.f1 ∧ x.f1.f2 = y.f1.f2) : x.f1 = y.f1 := by
 obtain ⟨_, ⟨a, b, c⟩, _, _, _, _⟩ := x
 obtain ⟨_, ⟨a', b', c'⟩, _, _, _, _⟩ := y
 obtain ⟨h1, h2, h3⟩ := h
 dsimp only at h1 h2 h3
 subst h1; subst h2; subst h3
 rfl
/-- What a store holds of the items that came. -/
structure Hld (P s : List RI) : Prop where
 ks : KR s
 mem : ∀ y ∈ s, y ∈ P
 all : ∀ x ∈ P, ∃ y, getM ky x.f0 s = some y ∧ nwR x y = false ∧ (x.f1 = y.f1 → x.f5 = true → y.f5 = true)
theorem Hld.nil : Hld [] [] := ⟨KS.nil, (fun y h => by cases h), (fun x h => by cases h)⟩
theorem Hld.put {P s : List RI} (h : Hld P s) (x : RI) (hc : Cons (P ++ [x])) : Hld (P ++ [x]) (putS s x).1 := by
 have hp := getM_putM toZ x h.ks
 have hx : x ∈ P ++ [x] := by simp
 refine ⟨putS_KR h.ks x, fun y hy => (putS_mem hy).elim (fun e => by simp [e]) (fun e => by simp [h.mem y e]), ?_⟩
 have other : ∀ z ∈ P, z.f0 ≠ x.f0 → ∀ y, getM ky z.f0 s = some y → getM ky z.f0 (putS s x).1 = some y := by
  intro z hz hne y hy
  have hp' := hp z.f0
  rw [if_neg hne] at hp'
  unfold putS
  split
  ·rw [hp']; exact hy
  ·split
   ·rw [hp']; exact hy
   ·exact hy
 cases hg : getM ky x.f0 s with
 | none =>
  have e : (putS s x).1 = putM ltI ky x s := by unfold putS; rw [hg]
  intro z hz
  rcases List.mem_append.mp hz with hz | hz
  ·obtain ⟨y, h1, h2⟩ := h.all z hz
   have hne : z.f0 ≠ x.f0 := fun e2 => by rw [e2, hg] at h1; cases h1
   exact ⟨y, other z hz hne y h1, h2⟩
  ·rw [List.mem_singleton] at hz
   subst hz
   refine ⟨z, ?_, nw_self z, fun _ h => h⟩
   rw [e, hp, if_pos rfl]
 | some o =>
  have hom : o ∈ P ++ [x] := by simp [h.mem o (getM_mem _ hg).1]
  by_cases hgv : givesS o x = true
  ·have e : (putS s x).1 = putM ltI ky x s := by unfold putS; rw [hg]; simp only [hgv, if_true]
   have hxx : getM ky x.f0 (putS s x).1 = some x := by rw [e, hp, if_pos rfl]
   intro z hz
   rcases List.mem_append.mp hz with hz' | hz'
   ·obtain ⟨y, h1, h2, h3⟩ := h.all z hz'
    by_cases hk : z.f0 = x.f0
    ·rw [hk, hg] at h1
     obtain rfl := Option.some.inj h1
     refine ⟨x, by rw [hk]; exact hxx, ?_, ?_⟩
     ·rw [givesS] at hgv
      split at hgv
      ·rename_i hv
       rw [← nw_eq' (ver_to hv)]; exact h2
      ·have : nwR o x = false := by simpa using hgv
       exact nw_not h2 this
     ·intro hzv hz5
      rw [givesS] at hgv
      split at hgv
      ·rw [Bool.and_eq_true] at hgv; exact hgv.1
      ·rename_i hv
       have hox : nwR o x = false := by simpa using hgv
       have hxo : nwR x o = false := by rw [← nw_eq hzv]; exact h2
       have := (hc o hom x hx (nw_neither hox hxo)).2.1
       exact absurd (ver_of this) hv
    ·exact ⟨y, other z hz' hk y h1, h2, h3⟩
   ·rw [List.mem_singleton] at hz'
    subst hz'
    exact ⟨z, hxx, nw_self z, fun _ h => h⟩
  ·have e : (putS s x).1 = s := by unfold putS; rw [hg]; simp [hgv]
   rw [e]
   intro z hz
   rcases List.mem_append.mp hz with hz' | hz'
   ·exact h.all z hz'
   ·rw [List.mem_singleton] at hz'
    subst hz'
    refine ⟨o, hg, ?_, ?_⟩
    ·rw [givesS] at hgv
     split at hgv
     ·rename_i hv
      rw [nw_eq (ver_to hv).symm]; exact nw_self o
     ·have : nwR o z = true := by simpa using hgv
      exact newZ_not_both _ _ _ _ this
    ·intro hv hz5
     rw [givesS, if_pos (ver_of hv.symm), hz5] at hgv
     simpa using hgv
theorem Cons.sub {L M : List RI} (h : Cons L) (hs : ∀ x ∈ M, x ∈ L) : Cons M := fun x hx y hy => h x (hs x hx) y (hs y hy)
/-- All of a list comes, one by one. -/
def putAllS (L : List RI) : List RI := L.foldl (fun s x => (putS s x).1) []
theorem putAll_snoc (L : List RI) (x : RI) : putAllS (L ++ [x]) = (putS (putAllS L) x).1 := by simp [putAllS, List.foldl_append]
theorem take_one (L : List RI) (n : Nat) (h : n < L.length) : L.take (n + 1) = L.take n ++ [L[n]] := (List.take_append_getElem h).symm
theorem hld_take {L : List RI} (hc : Cons L) : ∀ n, n ≤ L.length → Hld (L.take n) (putAllS (L.take n))
 | 0, _ => by rw [List.take_zero]; exact Hld.nil
 | n + 1, h => by
  have hlt : n < L.length := by omega
  rw [take_one L n hlt, putAll_snoc]
  refine (hld_take hc n (by omega)).put _ (hc.sub fun x hx => ?_)
  rw [← take_one L n hlt] at hx
  exact List.mem_of_mem_take hx
theorem hld_all {L : List RI} (hc : Cons L) : Hld L (putAllS L) := by
 have := hld_take hc L.length (Nat.le_refl _)
 rwa [List.take_length] at this
theorem putAll_len (L : List RI) : ∀ n, n ≤ L.length → (putAllS (L.take n)).length ≤ n
 | 0, _ => by rw [List.take_zero]; exact Nat.le_refl _
 | n + 1, h => by
  have hlt : n < L.length := by omega
  rw [take_one L n hlt, putAll_snoc]
  have := putS_length (putAllS (L.take n)) L[n]
  have := putAll_len L n (by omega)
  omega
/-- Two orders of the same items: at each place the same. -/
theorem two_orders {L M : List RI} (hp : M.Perm L) (hc : Cons L) : (putAllS L).length = (putAllS M).length ∧ ∀ i (h1 : i < (putAllS L).length) (h2 : i < (putAllS M).length), (putAllS L)[i].f0 = (putAllS M)[i].f0 ∧ (putAllS L)[i].f1 = (putAllS M)[i].f1 ∧ (putAllS L)[i].f5 = (putAllS M)[i].f5 ∧ (putAllS L)[i].f2 = (putAllS M)[i].f2 := by
 have hcM : Cons M := hc.sub fun x hx => hp.mem_iff.mp hx
 have hL := hld_all hc
 have hM := hld_all hcM
 have sub : ∀ {P Q a b : List RI}, (∀ x, x ∈ P → x ∈ Q) → Hld P a → Hld Q b → ∀ k, k ∈ a.map ky → k ∈ b.map ky := by
  intro P Q a b hs ha hb k hk
  obtain ⟨x, hx, rfl⟩ := List.mem_map.mp hk
  obtain ⟨y, hy, -⟩ := hb.all x (hs x (ha.mem x hx))
  obtain ⟨h1, h2⟩ := getM_mem _ hy
  exact List.mem_map.mpr ⟨y, h1, h2⟩
 have hkeys : (putAllS L).map ky = (putAllS M).map ky := by
  refine ssort_unique toZ ?_ ?_ fun k => ⟨sub (fun x hx => hp.mem_iff.mpr hx) hL hM k, sub (fun x hx => hp.mem_iff.mp hx) hM hL k⟩
  ·exact List.pairwise_map.mpr hL.ks
  ·exact List.pairwise_map.mpr hM.ks
 have hlen : (putAllS L).length = (putAllS M).length := by
  have := congrArg List.length hkeys
  simpa using this
 refine ⟨hlen, fun i h1 h2 => ?_⟩
 have hk : (putAllS L)[i].f0 = (putAllS M)[i].f0 := by
  have e1 : ((putAllS L).map ky)[i]? = ((putAllS M).map ky)[i]? := by rw [hkeys]
  rw [List.getElem?_map, List.getElem?_map, List.getElem?_eq_getElem h1, List.getElem?_eq_getElem h2] at e1
  simpa using e1
 have ha := List.getElem_mem h1
 have hb := List.getElem_mem h2
 generalize (putAllS L)[i] = a at hk ha ⊢
 generalize (putAllS M)[i] = b at hk hb ⊢
 have haL := hL.mem a ha
 have hbM := hM.mem b hb
 have hbL : b ∈ L := hp.mem_iff.mp hbM
 obtain ⟨y, y1, y2, y3⟩ := hM.all a (hp.mem_iff.mpr haL)
 have ey : y = b := by
  rw [hk] at y1
  have := (getM_some toZ hM.ks b.f0 b).mpr ⟨hb, rfl⟩
  rw [this] at y1
  exact (Option.some.inj y1).symm
 subst ey
 obtain ⟨z, z1, z2, z3⟩ := hL.all y hbL
 have ez : z = a := by
  rw [← hk] at z1
  have := (getM_some toZ hL.ks a.f0 a).mpr ⟨ha, rfl⟩
  rw [this] at z1
  exact (Option.some.inj z1).symm
 subst ez
 obtain ⟨c1, c2, c3⟩ := hc z haL y hbL (nw_neither y2 z2)
 refine ⟨hk, c2, ?_, c3⟩
 cases h5 : z.f5 with
 | true => exact (y3 c2 h5).symm
 | false =>
  cases h6 : y.f5 with
  | false => rfl
  | true => rw [z3 c2.symm h6] at h5; cases h5
theorem getD_R (s : List RI) (n : Nat) (h : n < s.length) : s.getD n z28 = s[n] := by simp [List.getD, h]
/-- Without its text. -/
def stubR (y : RI) : RI := ⟨y.f0, y.f1, y.f2, y.f3, ⟨#[]⟩, false⟩
theorem stubR_ok {y : RI} (h : OkIt y) : OkIt (stubR y) :=
 ⟨h.k0, h.k1, h.i0, h.i1, h.q0, h.q1, h.s0, h.s1, h.x0, h.x1, h.y0, h.y1, Nat.zero_le _, fun hd => ⟨rfl, (h.d1 hd).2⟩, fun _ => rfl⟩
theorem so5 {L A : List RI} (hL : L.length ≤ 14) (hA : A.length ≤ 14) (ho : ∀ x ∈ L, OkIt x) (hh : Hld L A) : ∀ (d n k : Nat), L.length - n = d → n ≤ L.length → 200 + d < k → cenotaphlaw08_StoreOrders.l5 k L (A.map toI) n = some true := by
 intro d
 induction d with
 | zero =>
  intro n k hd hn hk
  obtain ⟨k, rfl⟩ : ∃ m, k = m + 1 := ⟨k - 1, by omega⟩
  rw [cenotaphlaw08_StoreOrders.l5, if_neg (by omega)]
 | succ d ih =>
  intro n k hd hn hk
  obtain ⟨k, rfl⟩ : ∃ m, k = m + 1 := ⟨k - 1, by omega⟩
  have hlt : n < L.length := by omega
  have hx := List.getElem_mem hlt
  have ih' := ih (n + 1) k (by omega) (by omega) (by omega)
  rw [cenotaphlaw08_StoreOrders.l5, if_pos (by omega), if_pos (by omega), rdR, getD_R L n hlt, wrap_nat (by omega)]
  generalize L[n] = x at hx
  obtain ⟨y, y1, y2, y3⟩ := hh.all x hx
  have hy := ho y (hh.mem y (getM_mem _ y1).1)
  have eg := own_get hh.ks (by omega) x.f0
  have egp : getP A x.f0 = tupP (toI y) true := by unfold getP; rw [y1]
  rw [eg, Option.bind_some, egp]
  have ef : cenotaphlaw07_From.f (toI y).f0 (toI y).f1.f0 (toI y).f1.f1 (toI y).f1.f2 (toI y).f2 (toI y).f3 (toI y).f4 (toI y).f5 = some (y.f0, y.f1.f0, y.f1.f1, y.f1.f2, y.f2, y.f3.f0, y.f3.f1, y.f4, y.f5) := by
   rw [cenotaphlaw07_From.f, toI_cx hy.near, Option.bind_some]; rfl
  have en := ref_newer x.f1.f0 x.f1.f1 x.f1.f2 y.f1.f0 y.f1.f1 y.f1.f2 k (by have := (ho x hx).i1; omega) (by have := (ho x hx).i1; omega)
  have en2 : newZ x.f1.f0 x.f1.f2 y.f1.f0 y.f1.f2 = false := y2
  rw [en2] at en
  unfold tupP
  dsimp only
  rw [if_pos rfl, ef, Option.bind_some, en, Option.bind_some, if_neg (by decide), Option.bind_some, ver_eq]
  by_cases hv : x.f1.f0 = y.f1.f0 ∧ x.f1.f1 = y.f1.f1 ∧ x.f1.f2 = y.f1.f2
  ·rw [decide_eq_true hv, if_pos rfl]
   by_cases h5 : x.f5 = true
   ·rw [if_pos h5, if_pos (show (toI y).f5 = true from y3 (ver_to hv) h5)]; exact ih'
   ·rw [if_neg h5]; exact ih'
  ·rw [decide_eq_false hv, if_neg (by decide)]; exact ih'
theorem so4 {L A B : List RI} (hl : A.length = B.length) (hA : A.length ≤ 14) (hs : ∀ i (h1 : i < A.length) (h2 : i < B.length), A[i].f0 = B[i].f0 ∧ A[i].f1 = B[i].f1 ∧ A[i].f5 = B[i].f5 ∧ A[i].f2 = B[i].f2)
  (h5 : ∀ k, 300 < k → cenotaphlaw08_StoreOrders.l5 k L (A.map toI) 0 = some true) : ∀ (d n k : Nat), A.length - n = d → n ≤ A.length → 301 + d < k → cenotaphlaw08_StoreOrders.l4 k L (A.map toI) (B.map toI) n = some true := by
 have hla : (A.map toI).length = A.length := List.length_map _
 have hlb : (B.map toI).length = B.length := List.length_map _
 intro d
 induction d with
 | zero =>
  intro n k hd hn hk
  obtain ⟨k, rfl⟩ : ∃ m, k = m + 1 := ⟨k - 1, by omega⟩
  rw [cenotaphlaw08_StoreOrders.l4, if_neg (by omega)]
  exact h5 k (by omega)
 | succ d ih =>
  intro n k hd hn hk
  obtain ⟨k, rfl⟩ : ∃ m, k = m + 1 := ⟨k - 1, by omega⟩
  have h1 : n < A.length := by omega
  have h2 : n < B.length := by omega
  have ih' := ih (n + 1) k (by omega) (by omega) (by omega)
  have ha : rd_T41 (A.map toI) (n : Int) = toI A[n] := by rw [rdP, toI_at A n h1]
  have hb : rd_T41 (B.map toI) (n : Int) = toI B[n] := by rw [rdP, toI_at B n h2]
  obtain ⟨e1, e2, e3, e4⟩ := hs n h1 h2
  rw [cenotaphlaw08_StoreOrders.l4, if_pos (by omega), if_pos (by omega), if_pos (by omega), ha, hb, wrap_nat (by omega)]
  generalize A[n] = a at e1 e2 e3 e4
  generalize B[n] = b at e1 e2 e3 e4
  have q1 : (toI a).f0 = (toI b).f0 := e1
  have q2 : (toI a).f1 = (toI b).f1 := by show (⟨a.f1.f0, a.f1.f1, a.f1.f2⟩ : S38) = ⟨b.f1.f0, b.f1.f1, b.f1.f2⟩; rw [e2]
  have q3 : (toI a).f5 = (toI b).f5 := e3
  have q4 : (toI a).f2 = (toI b).f2 := e4
  have n1 : (!((toI b).f1.f0.toList == (toI b).f1.f0.toList) || (!((toI b).f1.f1 == (toI b).f1.f1) || !((toI b).f1.f2 == (toI b).f1.f2))) = false := by simp
  rw [if_pos q1, q2, n1, if_neg (by decide), q3, bne_self_eq_false, if_neg (by decide), q4, bne_self_eq_false, if_neg (by decide)]
  exact ih'
theorem so3 {L O : List RI} (hp : O.Perm L) (hL : L.length ≤ 14) (ho : ∀ x ∈ L, OkIt x) (hc : Cons L) : ∀ (d n k : Nat), L.length - n = d → n ≤ L.length → 400 + d < k →
  cenotaphlaw08_StoreOrders.l3 k L O ((putAllS (L.take n)).map toI) ((putAllS (O.take n)).map toI) n = some true := by
 have hol := hp.length_eq
 have hcO : Cons O := hc.sub fun x hx => hp.mem_iff.mp hx
 intro d
 induction d with
 | zero =>
  intro n k hd hn hk
  obtain ⟨k, rfl⟩ : ∃ m, k = m + 1 := ⟨k - 1, by omega⟩
  have e : n = L.length := by omega
  have e2 : O.take n = O := by rw [List.take_of_length_le (by omega)]
  have e3 : L.take n = L := by rw [List.take_of_length_le (by omega)]
  obtain ⟨t1, t2⟩ := two_orders hp hc
  have hlA : (putAllS L).length ≤ 14 := by have := putAll_len L L.length (Nat.le_refl _); rw [List.take_length] at this; omega
  rw [cenotaphlaw08_StoreOrders.l3, if_neg (by omega), told_ok k (by omega), Option.bind_some, if_pos rfl, e2, e3, List.length_map, List.length_map, t1, bne_self_eq_false]
  obtain ⟨k, rfl⟩ : ∃ m, k = m + 1 := ⟨k - 1, by omega⟩
  rw [cenotaphlaw08_StoreOrders.j7, if_neg (by decide)]
  exact so4 t1 hlA t2 (fun k hk => so5 hL hlA ho (hld_all hc) L.length 0 k (by omega) (by omega) (by omega)) (putAllS L).length 0 k (by omega) (by omega) (by omega)
 | succ d ih =>
  intro n k hd hn hk
  obtain ⟨k, rfl⟩ : ∃ m, k = m + 1 := ⟨k - 1, by omega⟩
  have h1 : n < L.length := by omega
  have h2 : n < O.length := by omega
  have ih' := ih (n + 1) k (by omega) (by omega) (by omega)
  rw [take_one L n h1, putAll_snoc, take_one O n h2, putAll_snoc] at ih'
  have pa := own_put (hld_take hc n (by omega)).ks (by have := putAll_len L n (by omega); omega) L[n]
  have pb := own_put (hld_take hcO n (by omega)).ks (by have := putAll_len O n (by omega); omega) O[n]
  rw [cenotaphlaw08_StoreOrders.l3, if_pos (by omega), if_pos (by omega), rdR, getD_R L n h1, cenotaphlaw07_To.f, Option.bind_some]
  dsimp only
  have pa' : store_Put.f ((putAllS (L.take n)).map toI) L[n].f0 L[n].f1.f0 L[n].f1.f1 L[n].f1.f2 L[n].f2 (cxOf L[n].f3.f0 L[n].f3.f1) L[n].f4 L[n].f5 = _ := pa
  have pb' : store_Put.f ((putAllS (O.take n)).map toI) O[n].f0 O[n].f1.f0 O[n].f1.f1 O[n].f1.f2 O[n].f2 (cxOf O[n].f3.f0 O[n].f3.f1) O[n].f4 O[n].f5 = _ := pb
  rw [pa', Option.bind_some, if_pos (by omega), rdR, getD_R O n h2, cenotaphlaw07_To.f, Option.bind_some]
  dsimp only
  rw [pb', Option.bind_some, wrap_nat (by omega)]
  exact ih'
theorem swap_one {α : Type} (x : α) : ∀ (t : List α) (b : Nat) (h : b < t.length), (t[b] :: t.set b x).Perm (x :: t)
 | y :: s, 0, _ => List.Perm.swap x y s
 | y :: s, b + 1, h => by
  have hb : b < s.length := by simpa using h
  show (s[b] :: y :: s.set b x).Perm (x :: y :: s)
  exact ((List.Perm.swap y s[b] (s.set b x)).trans (List.Perm.cons y (swap_one x s b hb))).trans (List.Perm.swap x y s)
theorem swap_lt {α : Type} : ∀ (O : List α) (a b : Nat) (hab : a < b) (hb : b < O.length), ((O.set a O[b]).set b (O[a]'(by omega))).Perm O
 | x :: t, 0, b + 1, _, hb => by
  have hb' : b < t.length := by simpa using hb
  exact swap_one x t b hb'
 | x :: t, a + 1, b + 1, hab, hb => by
  have hb' : b < t.length := by simpa using hb
  exact List.Perm.cons x (swap_lt t a b (by omega) hb')
theorem swap_perm {α : Type} (O : List α) (a b : Nat) (ha : a < O.length) (hb : b < O.length) : ((O.set a O[b]).set b O[a]).Perm O := by
 rcases Nat.lt_trichotomy a b with h | h | h
 ·exact swap_lt O a b h hb
 ·subst h; simp
 ·rw [List.set_comm _ _ (by omega)]
  exact swap_lt O b a h ha
theorem so2 (ms : List Int) {L : List RI} (hL : L.length ≤ 14) (ho : ∀ x ∈ L, OkIt x) (hc : Cons L) : ∀ (d n k : Nat) (O : List RI), 40 - n = d → n ≤ 40 → O.Perm L → 500 + d < k → cenotaphlaw08_StoreOrders.l2 k ms L O n = some true := by
 have fin : ∀ (O : List RI), O.Perm L → ∀ k, 450 < k → cenotaphlaw08_StoreOrders.j5 k L O = some true := by
  intro O hp k hk
  obtain ⟨k, rfl⟩ : ∃ m, k = m + 1 := ⟨k - 1, by omega⟩
  rw [cenotaphlaw08_StoreOrders.j5]
  have := so3 hp hL ho hc L.length 0 k (by omega) (by omega) (by omega)
  rw [List.take_zero, List.take_zero] at this
  exact this
 intro d
 induction d with
 | zero =>
  intro n k O hd hn hp hk
  obtain ⟨k, rfl⟩ : ∃ m, k = m + 1 := ⟨k - 1, by omega⟩
  have hf := fin O hp k (by omega)
  rw [cenotaphlaw08_StoreOrders.l2]
  split
  ·split
   ·rw [if_neg (by omega)]; exact hf
   ·exact hf
  ·exact hf
 | succ d ih =>
  intro n k O hd hn hp hk
  obtain ⟨k, rfl⟩ : ∃ m, k = m + 1 := ⟨k - 1, by omega⟩
  have hf := fin O hp k (by omega)
  have hol := hp.length_eq
  rw [cenotaphlaw08_StoreOrders.l2]
  by_cases h1 : (n : Int) < (ms.length : Int)
  ·rw [if_pos h1]
   by_cases h2 : (O.length : Int) > 1
   ·have hz : (0 : Int) < (O.length : Int) := by omega
    have eu : IntKind.u64.wrap (O.length : Int) = (O.length : Int) := u64_id (by omega) (by omega)
    obtain ⟨m1, m2⟩ := u64_mod (rd ms (n : Int)) (O.length : Int) hz
    have hn0 : (0 : Int) ≤ Int.tmod (n : Int) (O.length : Int) := Int.tmod_nonneg _ (by omega)
    have hn1 : Int.tmod (n : Int) (O.length : Int) < (O.length : Int) := Int.tmod_lt_of_pos _ hz
    rw [if_pos h2, if_pos (by omega), if_neg (by omega), if_pos (by omega), eu, if_neg (by omega), wrap_id (i := Int.tmod (IntKind.u64.wrap (rd ms (n : Int))) (O.length : Int)) (by omega) (by omega), if_pos m1, if_pos m2, if_pos hn0, if_pos hn1, wrap_nat (by omega)]
    generalize Int.tmod (IntKind.u64.wrap (rd ms (n : Int))) (O.length : Int) = b at m1 m2
    generalize Int.tmod (n : Int) (O.length : Int) = a at hn0 hn1
    obtain ⟨b, rfl⟩ : ∃ j : Nat, b = (j : Int) := ⟨b.toNat, by omega⟩
    obtain ⟨a, rfl⟩ : ∃ j : Nat, a = (j : Int) := ⟨a.toNat, by omega⟩
    have ha : a < O.length := by omega
    have hb : b < O.length := by omega
    refine ih (n + 1) k _ (by omega) (by omega) ?_ (by omega)
    have e := (swap_perm O a b ha hb).trans hp
    rw [rdR, rdR, getD_R O a ha, getD_R O b hb, Int.toNat_natCast, Int.toNat_natCast]
    exact e
   ·rw [if_neg h2]; exact hf
  ·rw [if_neg h1]; exact hf
theorem One.symm {x y : RI} (h : One x y) : One y x := ⟨h.1.symm, h.2.symm⟩
theorem One.trans {x y z : RI} (h : One x y) (h2 : One y z) : One x z := ⟨h.1.trans h2.1, h.2.trans h2.2⟩
/-- What is known of an item that is looked up among those that came, as far as place j. -/
def InvX (o : List RI) (j : Nat) (x : RI) : Prop := (∀ y ∈ o.take j, ¬ One y x) ∨ ∃ y ∈ o, One y x ∧ y.f0 = x.f0 ∧ y.f1 = x.f1 ∧ y.f2 = x.f2
theorem cons_snoc {o : List RI} (hc : Cons o) {x : RI} (h : InvX o o.length x) : Cons (o ++ [x]) := by
 have key : ∀ y ∈ o, One y x → y.f0 = x.f0 ∧ y.f1 = x.f1 ∧ y.f2 = x.f2 := by
  intro y hy h1
  rcases h with h | ⟨z, hz, h2, h3, h4, h5⟩
  ·rw [List.take_length] at h
   exact absurd h1 (h y hy)
  ·obtain ⟨c1, c2, c3⟩ := hc y hy z hz (h1.trans h2.symm)
   exact ⟨c1.trans h3, c2.trans h4, c3.trans h5⟩
 intro a ha b hb hab
 rcases List.mem_append.mp ha with ha' | ha'
 ·rcases List.mem_append.mp hb with hb' | hb'
  ·exact hc a ha' b hb' hab
  ·have e : b = x := List.mem_singleton.mp hb'
   rw [e] at hab ⊢
   exact key a ha' hab
 ·have e : a = x := List.mem_singleton.mp ha'
  rw [e] at hab ⊢
  rcases List.mem_append.mp hb with hb' | hb'
  ·obtain ⟨c1, c2, c3⟩ := key b hb' hab.symm
   exact ⟨c1.symm, c2.symm, c3.symm⟩
  ·have e2 : b = x := List.mem_singleton.mp hb'
   rw [e2]
   exact ⟨rfl, rfl, rfl⟩
theorem so1 (l : List RI) (ms : List Int) (i : Int) {o : List RI} (hol : o.length ≤ 14) (hoo : ∀ y ∈ o, OkIt y) (hc : Cons o) (K : Nat)
  (H : ∀ X, OkIt X → Cons (o ++ [X]) → ∀ k, K ≤ k → cenotaphlaw08_StoreOrders.l0 k l ms (o ++ [X]) (wrap64 (i + 1)) = some true) : ∀ (d j k : Nat) (x : RI), o.length - j = d → j ≤ o.length → OkIt x → InvX o j x → K + 2 * d + 1 ≤ k →
  cenotaphlaw08_StoreOrders.l1 k l ms o i j x.f0 x.f1.f0 x.f1.f1 x.f1.f2 x.f2 x.f3.f0 x.f3.f1 x.f4 x.f5 = some true := by
 intro d
 induction d with
 | zero =>
  intro j k x hd hj hx hi hk
  obtain ⟨k, rfl⟩ : ∃ m, k = m + 1 := ⟨k - 1, by omega⟩
  have e : j = o.length := by omega
  subst e
  rw [cenotaphlaw08_StoreOrders.l1, if_neg (by omega), if_pos (by omega)]
  exact H x hx (cons_snoc hc hi) k (by omega)
 | succ d ih =>
  intro j k x hd hj hx hi hk
  obtain ⟨k, rfl⟩ : ∃ m, k = m + 2 := ⟨k - 2, by omega⟩
  have hlt : j < o.length := by omega
  have hy := List.getElem_mem hlt
  have hoy := hoo _ hy
  rw [cenotaphlaw08_StoreOrders.l1, if_pos (by omega), if_pos (by omega), rdR, getD_R o j hlt]
  have no : ¬ One o[j] x → cenotaphlaw08_StoreOrders.j3 (k + 1) l ms o i j false x.f0 x.f1.f0 x.f1.f1 x.f1.f2 x.f2 x.f3.f0 x.f3.f1 x.f4 x.f5 = some true := by
   intro hn
   rw [cenotaphlaw08_StoreOrders.j3, if_neg (by decide), wrap_nat (by omega)]
   refine ih (j + 1) k x (by omega) (by omega) hx ?_ (by omega)
   rcases hi with hi | hi
   ·refine Or.inl fun y hyt => ?_
    rw [take_one o j hlt] at hyt
    rcases List.mem_append.mp hyt with h | h
    ·exact hi y h
    ·rw [List.mem_singleton] at h; rw [h]; exact hn
   ·exact Or.inr hi
  by_cases h1 : o[j].f1.f2 = x.f1.f2
  ·rw [if_pos h1, baEq]
   by_cases h2 : o[j].f1.f0 = x.f1.f0
   ·have hone : One o[j] x := ⟨h1, h2⟩
    rw [decide_eq_true h2, cenotaphlaw08_StoreOrders.j3, if_pos rfl, if_pos (by omega), if_pos (by omega), rdR, getD_R o j hlt, wrap_nat (by omega)]
    by_cases h5 : x.f5 = true
    ·rw [if_pos h5]
     exact ih (j + 1) k o[j] (by omega) (by omega) hoy (Or.inr ⟨o[j], hy, ⟨rfl, rfl⟩, rfl, rfl, rfl⟩) (by omega)
    ·rw [if_neg h5, cenotaphref07_Stub.f, Option.bind_some]
     exact ih (j + 1) k (stubR o[j]) (by omega) (by omega) (stubR_ok hoy) (Or.inr ⟨o[j], hy, ⟨rfl, rfl⟩, rfl, rfl, rfl⟩) (by omega)
   ·rw [decide_eq_false h2]
    exact no fun h => h2 h.2
  ·rw [if_neg h1]
   exact no fun h => h1 h.1
theorem so0 (l : List RI) (ms : List Int) : ∀ (d n k : Nat) (o : List RI), 14 - n = d → n ≤ 14 → n ≤ l.length → o.length ≤ n → (∀ y ∈ o, OkIt y) → Cons o → 1000 + 100 * d ≤ k → cenotaphlaw08_StoreOrders.l0 k l ms o n = some true := by
 have fin : ∀ (o : List RI) (n : Int), o.length ≤ 14 → (∀ y ∈ o, OkIt y) → Cons o → ∀ k, 900 ≤ k → cenotaphlaw08_StoreOrders.j1 k l ms o n false = some true := by
  intro o n h1 h2 h3 k hk
  obtain ⟨k, rfl⟩ : ∃ m, k = m + 1 := ⟨k - 1, by omega⟩
  rw [cenotaphlaw08_StoreOrders.j1, if_neg (by decide), Option.bind_some, if_pos (by simp only [List.length_nil]; omega), List.nil_append]
  exact so2 ms h1 h2 h3 40 0 k o rfl (by omega) (List.Perm.refl _) (by omega)
 intro d
 induction d with
 | zero =>
  intro n k o hd hn hnl ho hoo hc hk
  obtain ⟨k, rfl⟩ : ∃ m, k = m + 1 := ⟨k - 1, by omega⟩
  rw [cenotaphlaw08_StoreOrders.l0]
  split
  ·rw [decide_eq_false (by omega)]
   exact fin o n (by omega) hoo hc k (by omega)
  ·exact fin o n (by omega) hoo hc k (by omega)
 | succ d ih =>
  intro n k o hd hn hnl ho hoo hc hk
  obtain ⟨k, rfl⟩ : ∃ m, k = m + 2 := ⟨k - 2, by omega⟩
  rw [cenotaphlaw08_StoreOrders.l0]
  by_cases h : (n : Int) < (l.length : Int)
  ·have hlt : n < l.length := by omega
   obtain ⟨x, hx, ex⟩ := fix_ok (l.getD n z28).f0 (l.getD n z28).f1.f0 (l.getD n z28).f1.f1 (l.getD n z28).f1.f2 (l.getD n z28).f2 (l.getD n z28).f3.f0 (l.getD n z28).f3.f1 (l.getD n z28).f4 (l.getD n z28).f5
   rw [if_pos h, decide_eq_true (by omega), cenotaphlaw08_StoreOrders.j1, if_pos rfl, if_pos (by omega), if_pos h, rdR, ex k (by omega), Option.bind_some]
   dsimp only
   refine so1 l ms n (by omega) hoo hc (1000 + 100 * d) (fun X hX hcX k hk' => ?_) o.length 0 k x (by omega) (by omega) hx (Or.inl fun y hy => by simp at hy) (by omega)
   rw [wrap_nat (by omega)]
   exact ih (n + 1) k _ (by omega) (by omega) (by omega) (by rw [List.length_append, List.length_singleton]; omega) (fun y hy => by
    rcases List.mem_append.mp hy with h | h
    ·exact hoo y h
    ·rw [List.mem_singleton] at h; rw [h]; exact hX) hcX hk'
  ·rw [if_neg h]
   exact fin o n (by omega) hoo hc (k + 1) (by omega)
theorem StoreOrders : cenotaphlaw08_StoreOrders.Pure := by
 intro l0 l1 _ _ _ _
 refine ⟨3000, ?_⟩
 rw [cenotaphlaw08_StoreOrders.f]
 exact so0 l0 l1 14 0 3000 [] rfl (by omega) (by omega) (by simp) (fun y hy => by cases hy) (fun x hx => by cases hx) (by omega)
end Go.Proofs.Ytgdkgobplinelaa.Pure
