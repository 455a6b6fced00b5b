/- StoreAges: of all Stores and Knows the items are told by their age, and those whose events aren't known. No condition beyond the statement's own. -/
import Derived.Test.YtgdkgobplinelaaTl
import Derived.Test.YtgdkgobplinelaaOrdB
import Derived.Test.YtgdkgobplinelaaP6
import Derived.Lib.Strings
import Derived.Test.YtgdkgobplinelaaOrdI
import Derived.Test.YtgdkgobplinelaaP10
import Derived.Test.YtgdkgobplinelaaP12
import Derived.Test.YtgdkgobplinelaaP7
import Derived.Test.YtgdkgobplinelaaP8
import Derived.Test.YtgdkgobplinelaaP11
import Derived.Test.YtgdkgobplinelaaP9
import Derived.Test.YtgdkgobplinelaaP0
import Derived.Test.YtgdkgobplinelaaP2
import Derived.Test.YtgdkgobplinelaaP5
import Derived.Test.YtgdkgobplinelaaP14
import Derived.Test.YtgdkgobplinelaaP15
import Derived.Test.YtgdkgobplinelaaSrtK
import Derived.Test.YtgdkgobplinelaaP23
import Derived.Test.YtgdkgobplinelaaOrdZ
import Derived.Test.YtgdkgobplinelaaKeys
import Derived.Test.YtgdkgobplinelaaP24
import Derived.Test.YtgdkgobplinelaaP22
import Derived.Test.YtgdkgobplinelaaGoalStoreAges
namespace Go.Proofs.Ytgdkgobplinelaa.Pure
open Go.RowKit Go.Proofs.Ytgdkgobplinelaa Go.Proofs.Ytgdkgobplinelaa.P Go.Proofs.YtgdkgobplinelaaW.PrintWords Go.Proofs.YtgdkgobplinelaaW.PrintLast
set_option linter.unusedVariables false
set_option linter.unusedSimpArgs false
theorem bt_get (a : ByteArray) (n : Nat) (h : n < a.size) : bt a (n : Int) = ((a.data.toList.getD n 0).toNat : Int) := by
 unfold bt
 have e : ((n : Int)).toNat = n := Int.toNat_natCast n
 simp only [e, dif_pos h]
 have h2 : n < a.data.toList.length := by simpa using h
 have : a.data.toList.getD n 0 = a.data.toList[n]'h2 := by simp [List.getD, List.getElem?_eq_getElem h2]
 rw [this]; simp; rfl
theorem size_list (a : ByteArray) : a.size = a.data.toList.length := by simp
theorem drop_cons (l : List UInt8) (n : Nat) (h : n < l.length) : l.drop n = l.getD n 0 :: l.drop (n + 1) := by
 rw [List.drop_eq_getElem_cons h]; simp [List.getD, List.getElem?_eq_getElem h]
theorem cmp_cons (x y : UInt8) (a b : List UInt8) : Lib.compareBytes (x :: a) (y :: b) = if x < y then -1 else if y < x then 1 else Lib.compareBytes a b := rfl
theorem ref_compare_loop (a b : ByteArray) (ha : a.size ≤ 9223372036854775807) (d : Nat) : ∀ (k n : Nat), a.size - n = d → n ≤ a.size → n ≤ b.size → 2 * d + 1 < k →
  cenotaphref01_Compare.l0 k a b (n : Int) = some (Lib.compareBytes (a.data.toList.drop n) (b.data.toList.drop n)) := by
 have sa := size_list a; have sb := size_list b
 induction d with
 | zero =>
  intro k n hd hn hb hk
  obtain ⟨k, rfl⟩ : ∃ m, k = m + 2 := ⟨k - 2, by omega⟩
  have e1 : a.data.toList.drop n = [] := List.drop_eq_nil_of_le (by omega)
  simp only [cenotaphref01_Compare.l0]; rw [if_neg (by omega)]
  simp only [cenotaphref01_Compare.j1]; rw [if_neg (by simp), e1]
  by_cases h : n < b.size
  ·rw [if_pos (by omega), drop_cons _ _ (by omega)]; rfl
  ·rw [if_neg (by omega), if_neg (by omega), List.drop_eq_nil_of_le (by omega)]; rfl
 | succ d ih =>
  intro k n hd hn hb hk
  obtain ⟨k, rfl⟩ : ∃ m, k = m + 2 := ⟨k - 2, by omega⟩
  have hlt : n < a.size := by omega
  simp only [cenotaphref01_Compare.l0]; rw [if_pos (by omega)]
  simp only [cenotaphref01_Compare.j1]
  rw [drop_cons a.data.toList n (by omega)]
  by_cases h : n < b.size
  ·have hw := ih k (n + 1) (by omega) (by omega) (by omega) (by omega)
   simp only [Int.natCast_add, Int.cast_ofNat_Int] at hw
   rw [decide_eq_true (by omega), if_pos rfl, if_pos (by omega), if_pos (by omega), if_pos (by omega), bt_get a n hlt, bt_get b n h, drop_cons b.data.toList n (by omega), wrap_id (by omega) (by omega), hw]
   generalize a.data.toList.getD n 0 = x
   generalize b.data.toList.getD n 0 = y
   rw [cmp_cons]
   by_cases h1 : x < y
   ·have : (x.toNat : Int) < y.toNat := by have := UInt8.lt_iff_toNat_lt.mp h1; omega
    rw [if_pos this, if_pos h1]
   ·have n1 : ¬ (x.toNat : Int) < y.toNat := by intro h; exact h1 (UInt8.lt_iff_toNat_lt.mpr (by omega))
    rw [if_neg n1, if_neg h1]
    by_cases h2 : y < x
    ·have : (x.toNat : Int) > y.toNat := by have := UInt8.lt_iff_toNat_lt.mp h2; omega
     rw [if_pos this, if_pos h2]
    ·have n2 : ¬ (x.toNat : Int) > y.toNat := by intro h; exact h2 (UInt8.lt_iff_toNat_lt.mpr (by omega))
     rw [if_neg n2, if_neg h2]
  ·rw [decide_eq_false (by omega), if_neg (by simp), if_neg (by omega), if_pos (by omega), List.drop_eq_nil_of_le (by omega : b.data.toList.length ≤ n)]; rfl
theorem ref_compare (a b : ByteArray) (k : Nat) (ha : a.size ≤ 9223372036854775807) (hk : 2 * a.size + 2 ≤ k) : cenotaphref01_Compare.f k a b = some (Lib.compareBytes a.data.toList b.data.toList) := by
 have := ref_compare_loop a b ha a.size k 0 (by omega) (by omega) (by omega) (by omega)
 unfold cenotaphref01_Compare.f
 simpa using this
def fixD (c : UInt8) : UInt8 := 49 + c % 9
def fixL (l : List UInt8) : List UInt8 := 48 :: (l.take 5).map fixD
def fixB (a : ByteArray) : ByteArray := ⟨(fixL a.data.toList).toArray⟩
theorem fixD_ok (c : UInt8) : okDigit (fixD c) = true := by
 have h : c.toNat % 9 < 9 := Nat.mod_lt _ (by omega)
 simp [okDigit, fixD, UInt8.le_iff_toNat_le, UInt8.toNat_add, UInt8.toNat_mod]; omega
theorem fixL_ok (l : List UInt8) : idL (fixL l) = true := by
 unfold fixL idL
 have h : (l.take 5).length ≤ 5 := List.length_take_le _ _
 simp only [beq_self_eq_true, Bool.true_and, List.length_map, decide_eq_true h]
 rw [List.all_eq_true]
 intro x hx
 obtain ⟨c, _, rfl⟩ := List.mem_map.mp hx
 exact fixD_ok c
theorem digit_at (c : UInt8) : ((⟨#[49, 50, 51, 52, 53, 54, 55, 56, 57]⟩ : ByteArray).extract (c.toNat % 9) (c.toNat % 9 + 1)) = ⟨#[fixD c]⟩ := by
 have h : c.toNat % 9 < 9 := Nat.mod_lt _ (by omega)
 have e : fixD c = UInt8.ofNat (49 + c.toNat % 9) := by
  apply UInt8.toNat_inj.mp
  simp [fixD, UInt8.toNat_add, UInt8.toNat_mod]
 rw [e]
 generalize c.toNat % 9 = j at h ⊢
 match j, h with
 | 0, _ => rfl
 | 1, _ => rfl
 | 2, _ => rfl
 | 3, _ => rfl
 | 4, _ => rfl
 | 5, _ => rfl
 | 6, _ => rfl
 | 7, _ => rfl
 | 8, _ => rfl
theorem bytes_snoc (l : List UInt8) (c : UInt8) : (⟨l.toArray⟩ : ByteArray) ++ (⟨#[c]⟩ : ByteArray) = ⟨(l ++ [c]).toArray⟩ := by
 apply ByteArray.ext; simp
theorem ref_fix_loop (a : ByteArray) (d : Nat) : ∀ (k n : Nat) (l : List UInt8), 5 - n = d → n ≤ a.size → n ≤ 5 → d < k → l.length = n + 1 →
  cenotaphref01_Fix.l0 k a ⟨l.toArray⟩ (n : Int) = some ⟨(l ++ ((a.data.toList.drop n).take d).map fixD).toArray⟩ := by
 have sa := size_list a
 induction d with
 | zero =>
  intro k n l hd hn h5 hk hl
  obtain ⟨k, rfl⟩ : ∃ m, k = m + 1 := ⟨k - 1, by omega⟩
  simp only [cenotaphref01_Fix.l0]
  by_cases h : n < a.size
  ·rw [if_pos (by omega), if_neg (by omega)]; simp
  ·rw [if_neg (by omega)]; simp
 | succ d ih =>
  intro k n l hd hn h5 hk hl
  obtain ⟨k, rfl⟩ : ∃ m, k = m + 1 := ⟨k - 1, by omega⟩
  simp only [cenotaphref01_Fix.l0]
  by_cases h : n < a.size
  ·rw [if_pos (by omega), if_pos (by omega), if_pos (by omega), bt_get a n h]
   have e0 : a.data.toList.drop n = a.data.toList.getD n 0 :: a.data.toList.drop (n + 1) := by
    rw [List.drop_eq_getElem_cons (by omega)]; simp [List.getD, List.getElem?_eq_getElem (show n < a.data.toList.length by omega)]
   rw [e0]
   generalize a.data.toList.getD n 0 = c
   have hm : Int.tmod (c.toNat : Int) 9 = ((c.toNat % 9 : Nat) : Int) := by
    rw [Int.tmod_eq_emod_of_nonneg (by omega)]; rfl
   have h9 : c.toNat % 9 < 9 := Nat.mod_lt _ (by omega)
   have hm2 : (((c.toNat % 9 : Nat) : Int) + 1) % 256 = ((c.toNat % 9 + 1 : Nat) : Int) := by omega
   have hsz : (⟨l.toArray⟩ : ByteArray).size + (⟨#[fixD c]⟩ : ByteArray).size ≤ 9223372036854775807 := by
    show l.toArray.size + 1 ≤ _
    rw [List.size_toArray]; omega
   rw [hm, hm2, if_pos (by omega), if_pos (by omega), if_pos (by omega), Int.toNat_natCast, Int.toNat_natCast, digit_at, if_pos hsz, bytes_snoc, wrap_id (by omega) (by omega)]
   have := ih k (n + 1) (l ++ [fixD c]) (by omega) (by omega) (by omega) (by omega) (by simp; omega)
   simp only [Int.natCast_add, Int.cast_ofNat_Int] at this
   rw [this]; simp
  ·rw [if_neg (by omega), List.drop_eq_nil_of_le (by omega)]; simp
theorem ref_fix (a : ByteArray) (k : Nat) (hk : 6 ≤ k) : cenotaphref01_Fix.f k a = some (fixB a) := by
 have := ref_fix_loop a 5 k 0 [48] (by omega) (by omega) (by omega) (by omega) rfl
 unfold cenotaphref01_Fix.f
 simpa [fixB, fixL] using this
theorem fixB_right (a : ByteArray) : rightB (fixB a) = true := by
 rw [rightB_eq]; exact fixL_ok _
abbrev RI : Type := S28
abbrev PI : Type := S41
structure OkIt (x : RI) : Prop where
 k0 : 0 ≤ x.f0
 k1 : x.f0 ≤ 31
 i0 : rightB x.f1.f0 = true
 i1 : x.f1.f0.size ≤ 6
 q0 : 1 ≤ x.f1.f1
 q1 : x.f1.f1 ≤ 1048576
 s0 : 1 ≤ x.f1.f2
 s1 : x.f1.f2 ≤ 1048576
 x0 : -1000 ≤ x.f3.f0
 x1 : x.f3.f0 ≤ 1000
 y0 : -1000 ≤ x.f3.f1
 y1 : x.f3.f1 ≤ 1000
 t1 : x.f4.size ≤ 16
 d1 : x.f2 = true → x.f5 = false ∧ x.f3.f0 = 0 ∧ x.f3.f1 = 0
 h1 : x.f5 = false → x.f4 = ⟨#[]⟩
theorem u64_mod (x m : Int) (hm : 0 < m) : 0 ≤ Int.tmod (IntKind.u64.wrap x) m ∧ Int.tmod (IntKind.u64.wrap x) m < m := by
 have h0 : 0 ≤ IntKind.u64.wrap x := by
  simp only [IntKind.wrap, IntKind.signed, IntKind.bits]
  simp
  omega
 rw [Int.tmod_eq_emod_of_nonneg h0]
 exact ⟨Int.emod_nonneg _ (by omega), Int.emod_lt_of_pos _ hm⟩
theorem fixB_size (a : ByteArray) : (fixB a).size ≤ 6 := by
 have h : (fixB a).size = (fixL a.data.toList).length := by simp [fixB, ByteArray.size]
 rw [h, fixL, List.length_cons, List.length_map, List.length_take]
 omega
theorem fix_ok (a0_0 : Int) (a0_1 : ByteArray) (a0_2 a0_3 : Int) (a0_4 : Bool) (a0_5 a0_6 : Int) (a0_7 : ByteArray) (a0_8 : Bool) : ∃ x : RI, OkIt x ∧ ∀ k, 6 ≤ k → cenotaphref07_Fix.f k a0_0 a0_1 a0_2 a0_3 a0_4 a0_5 a0_6 a0_7 a0_8 = some (x.f0, x.f1.f0, x.f1.f1, x.f1.f2, x.f2, x.f3.f0, x.f3.f1, x.f4, x.f5) := by
 refine ⟨⟨_, ⟨_, _, _⟩, _, ⟨_, _⟩, _, _⟩, ?_, fun k hk => by
  rw [cenotaphref07_Fix.f, ref_fix a0_1 k hk, Option.bind_some, cenotaphref05_Spot.f, Option.bind_some]⟩
 have m1 := u64_mod a0_0 32 (by omega)
 have m2 := u64_mod a0_2 60 (by omega)
 have m3 := u64_mod a0_3 60 (by omega)
 have m4 := u64_mod a0_5 2001 (by omega)
 have m5 := u64_mod a0_6 2001 (by omega)
 generalize Int.tmod (IntKind.u64.wrap a0_0) 32 = n1 at m1 ⊢
 generalize Int.tmod (IntKind.u64.wrap a0_2) 60 = n2 at m2 ⊢
 generalize Int.tmod (IntKind.u64.wrap a0_3) 60 = n3 at m3 ⊢
 generalize Int.tmod (IntKind.u64.wrap a0_5) 2001 = n4 at m4 ⊢
 generalize Int.tmod (IntKind.u64.wrap a0_6) 2001 = n5 at m5 ⊢
 have w1 : wrap64 n1 = n1 := wrap_id (by omega) (by omega)
 have w2 : wrap64 (1 + wrap64 n2) = 1 + n2 := by rw [wrap_id (i := n2) (by omega) (by omega), wrap_id (by omega) (by omega)]
 have w3 : wrap64 (1 + wrap64 n3) = 1 + n3 := by rw [wrap_id (i := n3) (by omega) (by omega), wrap_id (by omega) (by omega)]
 have w4 : wrap64 (wrap64 n4 - 1000) = n4 - 1000 := by rw [wrap_id (i := n4) (by omega) (by omega), wrap_id (by omega) (by omega)]
 have w5 : wrap64 (wrap64 n5 - 1000) = n5 - 1000 := by rw [wrap_id (i := n5) (by omega) (by omega), wrap_id (by omega) (by omega)]
 have hm : (a0_7.extract 0 ((mn (a0_7.size : Int) 16) : Int).toNat).size ≤ 16 := by
  have e : (a0_7.extract 0 ((mn (a0_7.size : Int) 16) : Int).toNat).size ≤ ((mn (a0_7.size : Int) 16) : Int).toNat := by
   rw [ByteArray.size_extract]; omega
  have : mn (a0_7.size : Int) 16 ≤ 16 := by unfold mn; split <;> omega
  omega
 constructor
 all_goals dsimp only
 ·rw [w1]; omega
 ·rw [w1]; omega
 ·exact fixB_right a0_1
 ·exact fixB_size a0_1
 ·rw [w2]; omega
 ·rw [w2]; omega
 ·rw [w3]; omega
 ·rw [w3]; omega
 ·rw [w4]; split <;> omega
 ·rw [w4]; split <;> omega
 ·rw [w5]; split <;> omega
 ·rw [w5]; split <;> omega
 ·split
  ·exact hm
  ·show 0 ≤ 16; omega
 ·intro hd; rw [if_pos hd, if_pos hd, if_pos hd]; exact ⟨rfl, rfl, rfl⟩
 ·intro hh
  rw [if_neg]
  rintro ⟨h1, h2⟩
  rw [if_neg (by rw [h2]; decide), h1] at hh
  cases hh
def newZ (i : ByteArray) (s : Int) (j : ByteArray) (t : Int) : Bool := if s = t then decide (cmpB i j > 0) else decide (s > t)
theorem ref_newer (i : ByteArray) (q s : Int) (j : ByteArray) (p t : Int) (k : Nat) (hi : i.size ≤ 9223372036854775807) (hk : 2 * i.size + 2 ≤ k) : cenotaphref07_Newer.f k i q s j p t = some (newZ i s j t) := by
 rw [cenotaphref07_Newer.f, newZ]
 by_cases h : s = t
 ·rw [if_neg (by omega), if_pos h, if_pos h, ref_compare i j k hi hk]; rfl
 ·rw [if_neg h]
  by_cases h2 : s > t
  ·rw [if_pos h2, if_neg h, decide_eq_true h2]
  ·rw [if_neg h2, if_neg h, decide_eq_false h2]
theorem newZ_not_both (i : ByteArray) (s : Int) (j : ByteArray) (t : Int) (h : newZ i s j t = true) : newZ j t i s = false := by
 rw [newZ] at h ⊢
 by_cases e : s = t
 ·rw [if_pos e] at h
  rw [if_pos e.symm, cmpB_neg]
  simp only [decide_eq_true_eq, decide_eq_false_iff_not] at h ⊢
  omega
 ·rw [if_neg e] at h
  rw [if_neg (Ne.symm e)]
  simp only [decide_eq_true_eq, decide_eq_false_iff_not] at h ⊢
  omega
def toI (x : RI) : PI := ⟨x.f0, ⟨x.f1.f0, x.f1.f1, x.f1.f2⟩, x.f2, cxOf x.f3.f0 x.f3.f1, x.f4, x.f5⟩
def NearS (x : RI) : Prop := x.f3.f0.natAbs < 2 ^ 53 ∧ x.f3.f1.natAbs < 2 ^ 53
theorem OkIt.near {x : RI} (h : OkIt x) : NearS x := by
 have := h.x0; have := h.x1; have := h.y0; have := h.y1
 exact ⟨by omega, by omega⟩
theorem toI_cx {x : RI} (h : NearS x) : cxInt (toI x).f3 = some (x.f3.f0, x.f3.f1) := cxInt_of h.1 h.2
def givesS (o x : RI) : Bool := if o.f1.f0 = x.f1.f0 ∧ o.f1.f1 = x.f1.f1 ∧ o.f1.f2 = x.f1.f2 then x.f5 && !o.f5 else !newZ o.f1.f0 o.f1.f2 x.f1.f0 x.f1.f2
theorem baEq (a b : ByteArray) : (a.toList == b.toList) = decide (a = b) := by
 by_cases h : a = b
 ·subst h; simp
 ·rw [decide_eq_false h, beq_eq_false_iff_ne]
  intro hh
  rw [Lib.toList_data, Lib.toList_data] at hh
  exact h (ByteArray.ext (Array.toList_inj.mp hh))
theorem ver_eq (i j : ByteArray) (q p s t : Int) : (i.toList == j.toList && (q == p && (s == t))) = decide (i = j ∧ q = p ∧ s = t) := by
 rw [baEq]
 by_cases h1 : i = j <;> by_cases h2 : q = p <;> by_cases h3 : s = t <;> simp [h1, h2, h3]
abbrev ky : RI → Int := fun x => x.f0
abbrev ltI : Int → Int → Prop := fun a b => a < b
abbrev KR (s : List RI) : Prop := KS ltI ky s
structure OkSt (s : List RI) : Prop where
 ks : KR s
 it : ∀ x ∈ s, OkIt x
 len : s.length ≤ 12
theorem getM_cons (a : Int) (x : RI) (t : List RI) : getM ky a (x :: t) = if x.f0 = a then some x else getM ky a t := rfl
def putS (s : List RI) (x : RI) : List RI × Bool := match getM ky x.f0 s with
 | none => (putM ltI ky x s, true)
 | some o => if givesS o x = true then (putM ltI ky x s, true) else (s, false)
theorem putS_KR {s : List RI} (h : KR s) (x : RI) : KR (putS s x).1 := by
 unfold putS
 split
 ·exact putM_KS toZ x h
 ·split
  ·exact putM_KS toZ x h
  ·exact h
theorem putS_mem {s : List RI} {x y : RI} (h : y ∈ (putS s x).1) : y = x ∨ y ∈ s := by
 unfold putS at h
 split at h
 ·exact ((mem_putM _ _ _).mp h).imp id (·.1)
 ·split at h
  ·exact ((mem_putM _ _ _).mp h).imp id (·.1)
  ·exact Or.inr h
theorem putS_length (s : List RI) (x : RI) : (putS s x).1.length ≤ s.length + 1 := by
 unfold putS
 split
 ·exact putM_length _ _
 ·split
  ·exact putM_length _ _
  ·exact Nat.le_succ _
def tupR (x : RI) (b : Bool) : Int × ByteArray × Int × Int × Bool × Int × Int × ByteArray × Bool × Bool := (x.f0, x.f1.f0, x.f1.f1, x.f1.f2, x.f2, x.f3.f0, x.f3.f1, x.f4, x.f5, b)
def getR (s : List RI) (a : Int) : Int × ByteArray × Int × Int × Bool × Int × Int × ByteArray × Bool × Bool := match getM ky a s with
 | some x => tupR x true
 | none => tupR z28 false
theorem rdR (s : List RI) (n : Nat) : rd_T28 s (n : Int) = s.getD n z28 := by
 unfold rd_T28; rw [Int.toNat_natCast]
theorem rdP (s : List PI) (n : Nat) : rd_T41 s (n : Int) = s.getD n z41 := by
 unfold rd_T41; rw [Int.toNat_natCast]
theorem ref_get_loop (s : List RI) (hs : s.length ≤ 100000) (a : Int) : ∀ (k n : Nat), n ≤ s.length → s.length - n < k → cenotaphref08_Get.l0 k s a n = some (getR (s.drop n) a)
 | 0, _, _, h => by omega
 | k + 1, n, hn, h => by
  rw [cenotaphref08_Get.l0]
  by_cases hlt : n < s.length
  ·rw [if_pos (by omega), if_pos (by omega), rdR, drop_getD s z28 n hlt, getR, getM_cons]
   by_cases he : (s.getD n z28).f0 = a
   ·rw [if_pos he, if_pos he]; rfl
   ·rw [if_neg he, if_neg he, wrap_nat (by omega)]
    exact ref_get_loop s hs a k (n + 1) (by omega) (by omega)
  ·rw [if_neg (by omega), List.drop_eq_nil_of_le (by omega)]; rfl
theorem ref_get (s : List RI) (hs : s.length ≤ 100000) (a : Int) (k : Nat) (hk : s.length < k) : cenotaphref08_Get.f k s a = some (getR s a) := by
 have := ref_get_loop s hs a k 0 (by omega) (by omega)
 rw [List.drop_zero] at this
 exact this
theorem ref_drop_loop (s : List RI) (hs : s.length ≤ 100000) (a : Int) : ∀ (k n : Nat) (o : List RI), n ≤ s.length → s.length - n < k → o.length ≤ n → cenotaphref08_Drop.l0 k s a o n = some (o ++ dropM ky a (s.drop n))
 | 0, _, _, _, h, _ => by omega
 | k + 1, n, o, hn, h, ho => by
  rw [cenotaphref08_Drop.l0]
  by_cases hlt : n < s.length
  ·rw [if_pos (by omega), if_pos (by omega), rdR, drop_getD s z28 n hlt, wrap_nat (by omega)]
   by_cases he : (s.getD n z28).f0 = a
   ·rw [if_pos he, ref_drop_loop s hs a k (n + 1) o (by omega) (by omega) (by omega)]
    unfold dropM
    rw [List.filter_cons_of_neg (by rw [decide_eq_true_eq]; exact fun h => h he)]
   ·rw [if_neg he, if_pos (by omega), ref_drop_loop s hs a k (n + 1) _ (by omega) (by omega) (by rw [List.length_append, List.length_singleton]; omega)]
    unfold dropM
    rw [List.filter_cons_of_pos (by rw [decide_eq_true_eq]; exact he), List.append_assoc]
    rfl
  ·rw [if_neg (by omega), List.drop_eq_nil_of_le (by omega)]
   simp [dropM]
theorem ref_drop (s : List RI) (hs : s.length ≤ 100000) (a : Int) (k : Nat) (hk : s.length < k) : cenotaphref08_Drop.f k s a = some (dropM ky a s) := by
 have := ref_drop_loop s hs a k 0 [] (by omega) (by omega) (by simp)
 rw [List.drop_zero, List.nil_append] at this
 exact this
abbrev gtK (u v : RI) : Bool := decide (ltI (ky v) (ky u))
theorem ref_sink_loop (x : RI) : ∀ (k : Nat) (p q : List RI), p.length < k → p.length + q.length ≤ 100000 → cenotaphref08_Put.l0 k (p.reverse ++ x :: q) (p.length : Int) = some (sinkR gtK x p q, true)
 | 0, _, _, h, _ => by omega
 | k + 1, [], q, h, hl => by
  rw [cenotaphref08_Put.l0, if_neg (by simp)]; rfl
 | k + 1, u :: p, q, h, hl => by
  simp only [List.length_cons] at h hl
  have e1 : wrap64 (((u :: p).length : Int) - 1) = (p.length : Int) := by rw [wrap_id (by simp only [List.length_cons]; omega) (by simp only [List.length_cons]; omega)]; simp only [List.length_cons]; omega
  have hL : ((u :: p).reverse ++ x :: q) = p.reverse ++ u :: x :: q := by simp
  have h0 : (p.reverse ++ u :: x :: q).getD p.length z28 = u := by
   rw [← List.length_reverse]; simp [List.getD]
  have h1 : (p.reverse ++ u :: x :: q).getD (p.length + 1) z28 = x := by
   have : (p.reverse ++ u :: x :: q) = (p.reverse ++ [u]) ++ x :: q := by simp
   rw [this, show p.length + 1 = (p.reverse ++ [u]).length by simp]
   simp [List.getD]
  have r0 : rd_T28 (p.reverse ++ u :: x :: q) (p.length : Int) = u := by rw [rdR, h0]
  have r1 : rd_T28 (p.reverse ++ u :: x :: q) ((u :: p).length : Int) = x := by rw [rdR, List.length_cons, h1]
  have hlen : (p.reverse ++ u :: x :: q).length = p.length + q.length + 2 := by simp; omega
  rw [cenotaphref08_Put.l0, if_pos (by simp only [List.length_cons]; omega), e1, if_pos (by omega), hL, if_pos (by omega), if_pos (by omega), if_pos (by simp only [List.length_cons]; omega), r0, r1, sinkR]
  by_cases hg : u.f0 > x.f0
  ·rw [if_pos hg, if_pos (by simpa [gtK] using hg)]
   have hsw := swap_at z28 p.reverse u x q
   rw [List.length_reverse, h0, h1] at hsw
   have e2 : ((p.length : Int)).toNat = p.length := by omega
   have e3 : (((u :: p).length : Int)).toNat = p.length + 1 := by simp only [List.length_cons]; omega
   rw [e2, e3]
   have : ((p.reverse ++ u :: x :: q).set p.length x).set (p.length + 1) u = p.reverse ++ x :: u :: q := hsw
   show cenotaphref08_Put.l0 k (((p.reverse ++ u :: x :: q).set p.length x).set (p.length + 1) u) (p.length : Int) = _
   rw [this]
   exact ref_sink_loop x k p (u :: q) (by omega) (by simp only [List.length_cons]; omega)
  ·rw [if_neg hg, if_neg (by simpa [gtK] using hg)]
   simp
theorem ref_put_new (s : List RI) (hs : s.length ≤ 1000) (x : RI) (k : Nat) (hk : s.length + 2 ≤ k) : cenotaphref08_Put.j0 (k + 1) s false x.f0 x.f1.f0 x.f1.f1 x.f1.f2 x.f2 x.f3.f0 x.f3.f1 x.f4 x.f5 = some (putM ltI ky x s, true) := by
 have hd := dropM_length (key := ky) x.f0 s
 rw [cenotaphref08_Put.j0, if_neg (by decide), ref_drop s (by omega) x.f0 k (by omega), Option.bind_some, Option.bind_some, if_pos (by simp only [List.length_singleton]; omega), Option.bind_some]
 have e : wrap64 (((dropM ky x.f0 s ++ [x]).length : Int) - 1) = ((dropM ky x.f0 s).reverse.length : Int) := by
  rw [List.length_append, List.length_singleton, List.length_reverse, wrap_id (by omega) (by omega)]; omega
 show cenotaphref08_Put.l0 k (dropM ky x.f0 s ++ [x]) (wrap64 (((dropM ky x.f0 s ++ [x]).length : Int) - 1)) = _
 have hl := ref_sink_loop x k (dropM ky x.f0 s).reverse [] (by rw [List.length_reverse]; omega) (by rw [List.length_reverse, List.length_nil]; omega)
 rw [List.reverse_reverse] at hl
 rw [e, hl]
 rfl
theorem ref_put_old (s : List RI) (hs : s.length ≤ 1000) (x : RI) (k : Nat) : cenotaphref08_Put.j0 (k + 1) s true x.f0 x.f1.f0 x.f1.f1 x.f1.f2 x.f2 x.f3.f0 x.f3.f1 x.f4 x.f5 = some (s, false) := by
 rw [cenotaphref08_Put.j0, if_pos rfl, Option.bind_some, if_pos (by simp only [List.length_nil]; omega), List.nil_append]
theorem ref_put (s : List RI) (hs : s.length ≤ 1000) (hi : ∀ y ∈ s, y.f1.f0.size ≤ 6) (x : RI) (k : Nat) (hk : s.length + 20 ≤ k) : cenotaphref08_Put.f k s x.f0 x.f1.f0 x.f1.f1 x.f1.f2 x.f2 x.f3.f0 x.f3.f1 x.f4 x.f5 = some (putS s x) := by
 obtain ⟨k, rfl⟩ : ∃ m, k = m + 1 := ⟨k - 1, by omega⟩
 have hn := ref_put_new s hs x k (by omega)
 have ho := ref_put_old s hs x k
 rw [cenotaphref08_Put.f, ref_get s (by omega) x.f0 (k + 1) (by omega), Option.bind_some]
 unfold getR putS
 cases hg : getM ky x.f0 s with
 | none =>
  show (if false = true then _ else _) = _
  rw [if_neg (by decide), hn]
 | some o =>
  have hom := (getM_mem _ hg).1
  have hne : cenotaphref07_Newer.f (k + 1) o.f1.f0 o.f1.f1 o.f1.f2 x.f1.f0 x.f1.f1 x.f1.f2 = some (newZ o.f1.f0 o.f1.f2 x.f1.f0 x.f1.f2) := ref_newer _ _ _ _ _ _ _ (by have := hi o hom; omega) (by have := hi o hom; omega)
  have hv := ver_eq o.f1.f0 x.f1.f0 o.f1.f1 x.f1.f1 o.f1.f2 x.f1.f2
  refine (if_pos rfl).trans ?_
  show _ = some (if givesS o x = true then (putM ltI ky x s, true) else (s, false))
  by_cases he : o.f1.f0 = x.f1.f0 ∧ o.f1.f1 = x.f1.f1 ∧ o.f1.f2 = x.f1.f2
  ·have hne2 : ¬ (!(o.f1.f0.toList == x.f1.f0.toList) || (!(o.f1.f1 == x.f1.f1) || (!(o.f1.f2 == x.f1.f2)))) = true := by
    rw [he.1, he.2.1, he.2.2]; simp
   refine (if_pos (hv.trans (decide_eq_true he))).trans ?_
   rw [givesS, if_pos he]
   cases h5 : o.f5 with
   | true =>
    refine (if_pos h5).trans ?_
    rw [ho]; simp
   | false =>
    refine (if_neg (show ¬ o.f5 = true by rw [h5]; decide)).trans ?_
    cases h6 : x.f5 with
    | true =>
     rw [if_pos rfl]
     refine (if_neg hne2).trans ?_
     rw [← h6, hn, h6]; rfl
    | false =>
     rw [if_neg (by decide), ← h6, ho, h6]; rfl
  ·have hne2 : (!(o.f1.f0.toList == x.f1.f0.toList) || (!(o.f1.f1 == x.f1.f1) || (!(o.f1.f2 == x.f1.f2)))) = true := by
    rw [decide_eq_false he] at hv
    have : (!(o.f1.f0.toList == x.f1.f0.toList && (o.f1.f1 == x.f1.f1 && (o.f1.f2 == x.f1.f2)))) = true := by rw [hv]; rfl
    rw [Bool.not_and, Bool.not_and] at this
    exact this
   refine (if_neg (show ¬ (o.f1.f0.toList == x.f1.f0.toList && (o.f1.f1 == x.f1.f1 && (o.f1.f2 == x.f1.f2))) = true by rw [hv, decide_eq_false he]; decide)).trans ?_
   refine (if_pos hne2).trans ?_
   show (cenotaphref07_Newer.f (k + 1) o.f1.f0 o.f1.f1 o.f1.f2 x.f1.f0 x.f1.f1 x.f1.f2).bind _ = _
   rw [hne, Option.bind_some, givesS, if_neg he]
   cases newZ o.f1.f0 o.f1.f2 x.f1.f0 x.f1.f2 with
   | true => rw [ho]; rfl
   | false => rw [hn]; rfl
theorem to_loop (s : List RI) (hs : s.length ≤ 100000) : ∀ (k n : Nat) (o : List PI), n ≤ s.length → s.length - n < k → o.length ≤ n → cenotaphlaw08_To.l0 k s o n = some (o ++ (s.drop n).map toI)
 | 0, _, _, _, h, _ => by omega
 | k + 1, n, o, hn, h, ho => by
  rw [cenotaphlaw08_To.l0]
  by_cases hlt : n < s.length
  ·rw [if_pos (by omega), if_pos (by omega), rdR, drop_getD s z28 n hlt, wrap_nat (by omega), cenotaphlaw07_To.f, Option.bind_some, if_pos (by omega),
    to_loop s hs k (n + 1) _ (by omega) (by omega) (by rw [List.length_append, List.length_singleton]; omega), List.append_assoc]
   rfl
  ·rw [if_neg (by omega), List.drop_eq_nil_of_le (by omega)]
   simp
theorem to_ok (s : List RI) (hs : s.length ≤ 100000) (k : Nat) (hk : s.length < k) : cenotaphlaw08_To.f k s = some (s.map toI) := by
 have := to_loop s hs k 0 [] (by omega) (by omega) (by simp)
 rw [List.drop_zero, List.nil_append] at this
 exact this
theorem toI_at (s : List RI) (i : Nat) (h : i < s.length) : (s.map toI).getD i z41 = toI s[i] := by
 simp [List.getD, h]
theorem st_fix_loop (l : List RI) (hl : l.length ≤ 9223372036854775807) : ∀ (d n : Nat) (o : List RI), 12 - n = d → n ≤ 12 → n ≤ l.length → KR o → (∀ x ∈ o, OkIt x) → o.length ≤ n → ∃ r, OkSt r ∧ ∀ k, 200 * (d + 1) ≤ k → cenotaphref08_Fix.l0 k l o n = some r := by
 intro d
 induction d with
 | zero =>
  intro n o hd hn hnl hk ho hlen
  refine ⟨o, ⟨hk, ho, by omega⟩, fun k hkk => ?_⟩
  obtain ⟨k, rfl⟩ : ∃ m, k = m + 2 := ⟨k - 2, by omega⟩
  rw [cenotaphref08_Fix.l0]
  by_cases h : (n : Int) < (l.length : Int)
  ·rw [if_pos h, cenotaphref08_Fix.j1, decide_eq_false (by omega), if_neg (by decide)]
  ·rw [if_neg h, cenotaphref08_Fix.j1, if_neg (by decide)]
 | succ d ih =>
  intro n o hd hn hnl hk ho hlen
  by_cases h : n < l.length
  ·have hlt : (n : Int) < (l.length : Int) := by omega
   obtain ⟨x, hx, ex⟩ := fix_ok (l.getD n z28).f0 (l.getD n z28).f1.f0 (l.getD n z28).f1.f1 (l.getD n z28).f1.f2 (l.getD n z28).f2 (l.getD n z28).f3.f0 (l.getD n z28).f3.f1 (l.getD n z28).f4 (l.getD n z28).f5
   obtain ⟨r0, hr0, e0⟩ := ih (n + 1) o (by omega) (by omega) (by omega) hk ho (by omega)
   obtain ⟨r1, hr1, e1⟩ := ih (n + 1) (putS o x).1 (by omega) (by omega) (by omega) (putS_KR hk x) (fun y hy => (putS_mem hy).elim (fun e => e ▸ hx) (ho y)) (by have := putS_length o x; omega)
   have hput : ∀ k, 200 ≤ k → cenotaphref08_Put.f k o x.f0 x.f1.f0 x.f1.f1 x.f1.f2 x.f2 x.f3.f0 x.f3.f1 x.f4 x.f5 = some (putS o x) := fun k hkk => ref_put o (by omega) (fun y hy => (ho y hy).i1) x k (by omega)
   have hloop : ∀ (m : Nat) (t : Bool), m ≤ o.length → ∃ r, OkSt r ∧ ∀ k, 200 * (d + 1) + 1 + (o.length - m) ≤ k → cenotaphref08_Fix.l1 k l o n t m x.f0 x.f1.f0 x.f1.f1 x.f1.f2 x.f2 x.f3.f0 x.f3.f1 x.f4 x.f5 = some r := by
    intro m
    generalize hg : o.length - m = g
    induction g generalizing m with
    | zero =>
     intro t hm
     cases t with
     | true =>
      refine ⟨r0, hr0, fun k hkk => ?_⟩
      obtain ⟨k, rfl⟩ : ∃ m, k = m + 1 := ⟨k - 1, by omega⟩
      rw [cenotaphref08_Fix.l1, if_neg (by omega), if_pos rfl, wrap_nat (by omega)]
      exact e0 k (by omega)
     | false =>
      refine ⟨r1, hr1, fun k hkk => ?_⟩
      obtain ⟨k, rfl⟩ : ∃ m, k = m + 1 := ⟨k - 1, by omega⟩
      rw [cenotaphref08_Fix.l1, if_neg (by omega), if_neg (by decide), hput k (by omega), Option.bind_some, wrap_nat (by omega)]
      exact e1 k (by omega)
    | succ g ihg =>
     intro t hm
     have hmo : m < o.length := by omega
     cases t with
     | true =>
      obtain ⟨r, hr, e⟩ := ihg (m + 1) (by omega) true (by omega)
      refine ⟨r, hr, fun k hkk => ?_⟩
      obtain ⟨k, rfl⟩ : ∃ m, k = m + 1 := ⟨k - 1, by omega⟩
      rw [cenotaphref08_Fix.l1, if_pos (by omega), if_pos rfl, wrap_nat (by omega)]
      exact e k (by omega)
     | false =>
      by_cases hs : (rd_T28 o (m : Int)).f1.f2 = x.f1.f2
      ·obtain ⟨r, hr, e⟩ := ihg (m + 1) (by omega) ((rd_T28 o (m : Int)).f1.f0.toList == x.f1.f0.toList) (by omega)
       refine ⟨r, hr, fun k hkk => ?_⟩
       obtain ⟨k, rfl⟩ : ∃ m, k = m + 1 := ⟨k - 1, by omega⟩
       rw [cenotaphref08_Fix.l1, if_pos (by omega), if_neg (by decide), if_pos (by omega), if_pos hs, wrap_nat (by omega)]
       exact e k (by omega)
      ·obtain ⟨r, hr, e⟩ := ihg (m + 1) (by omega) false (by omega)
       refine ⟨r, hr, fun k hkk => ?_⟩
       obtain ⟨k, rfl⟩ : ∃ m, k = m + 1 := ⟨k - 1, by omega⟩
       rw [cenotaphref08_Fix.l1, if_pos (by omega), if_neg (by decide), if_pos (by omega), if_neg hs, wrap_nat (by omega)]
       exact e k (by omega)
   obtain ⟨r, hr, e⟩ := hloop 0 false (by omega)
   refine ⟨r, hr, fun k hkk => ?_⟩
   obtain ⟨k, rfl⟩ : ∃ m, k = m + 2 := ⟨k - 2, by omega⟩
   rw [cenotaphref08_Fix.l0, if_pos hlt, cenotaphref08_Fix.j1, decide_eq_true (by omega), if_pos rfl, if_pos (by omega), if_pos hlt, rdR, ex k (by omega), Option.bind_some]
   exact e k (by omega)
  ·refine ⟨o, ⟨hk, ho, by omega⟩, fun k hkk => ?_⟩
   obtain ⟨k, rfl⟩ : ∃ m, k = m + 2 := ⟨k - 2, by omega⟩
   rw [cenotaphref08_Fix.l0, if_neg (by omega), cenotaphref08_Fix.j1, if_neg (by decide)]
theorem fix_st (l : List RI) (hl : l.length ≤ 9223372036854775807) : ∃ r, OkSt r ∧ ∀ k, 2600 ≤ k → cenotaphref08_Fix.f k l = some r := by
 obtain ⟨r, hr, e⟩ := st_fix_loop l hl 12 0 [] rfl (by omega) (by omega) KS.nil (fun x hx => by cases hx) (by simp)
 exact ⟨r, hr, fun k hk => e k (by omega)⟩
theorem up_mono {α : Type} {f : Nat → Option α} (hm : ∀ k, LeO (f k) (f (k + 1))) {k0 : Nat} {r : α} (h : f k0 = some r) : ∀ k, k0 ≤ k → f k = some r := by
 intro k hk
 obtain ⟨d, rfl⟩ : ∃ d, k = k0 + d := ⟨k - k0, by omega⟩
 clear hk
 induction d with
 | zero => exact h
 | succ d ih => exact hm _ _ ih
theorem told_ok (k : Nat) (hk : 10 ≤ k) : cenotaphlaw08_told.f k = some true := by
 refine up_mono (f := cenotaphlaw08_told.f) (k0 := 10) (fun k => cenotaphlaw08_told.mono k) ?_ k hk
 kernel_rfl
def neR (x y : RI) : Bool := (!((x.f0) == (y.f0)) || ((!(((x.f1.f0).toList) == ((y.f1.f0).toList)) || (!((x.f1.f1) == (y.f1.f1)) || (!((x.f1.f2) == (y.f1.f2))))) || (!((x.f2) == (y.f2)) || ((!((x.f3.f0) == (y.f3.f0)) || (!((x.f3.f1) == (y.f3.f1)))) || (!(((x.f4).toList) == ((y.f4).toList)) || (!((x.f5) == (y.f5))))))))
theorem neR_self (x : RI) : neR x x = false := by simp [neR]
def sameS : List RI → List RI → Bool
 | x :: s, y :: t => if neR x y = true then false else sameS s t
 | _, _ => true
theorem sameS_self : ∀ (s : List RI), sameS s s = true
 | [] => rfl
 | x :: s => by rw [sameS, neR_self, if_neg (by decide), sameS_self s]
theorem ref_same_loop (a b : List RI) (hs : a.length ≤ 100000) (hb : a.length = b.length) : ∀ (k n : Nat), n ≤ a.length → a.length - n < k → cenotaphref08_Same.l0 k a b n = some (sameS (a.drop n) (b.drop n))
 | 0, _, _, h => by omega
 | k + 1, n, hn, h => by
  rw [cenotaphref08_Same.l0]
  by_cases hlt : n < a.length
  ·rw [if_pos (by omega), if_pos (by omega), if_pos (by omega), rdR, rdR, drop_getD a z28 n hlt, drop_getD b z28 n (by omega), sameS, wrap_nat (by omega), ref_same_loop a b hs hb k (n + 1) (by omega) (by omega)]
   show (if neR _ _ = true then _ else _) = _
   split <;> rfl
  ·rw [if_neg (by omega), List.drop_eq_nil_of_le (by omega)]; rfl
def eqS (a b : List RI) : Bool := if a.length = b.length then sameS a b else false
theorem eqS_self (a : List RI) : eqS a a = true := by rw [eqS, if_pos rfl, sameS_self]
theorem ref_same (a b : List RI) (hs : a.length ≤ 100000) (k : Nat) (hk : a.length < k) : cenotaphref08_Same.f k a b = some (eqS a b) := by
 rw [cenotaphref08_Same.f, eqS]
 by_cases h : a.length = b.length
 ·rw [if_pos (by omega), if_pos h]
  have := ref_same_loop a b hs h k 0 (by omega) (by omega)
  rw [List.drop_zero, List.drop_zero] at this
  exact this
 ·rw [if_neg (by omega), if_neg h]
theorem from_loop (s : List RI) (hs : s.length ≤ 100000) (hn : ∀ x ∈ s, NearS x) : ∀ (k n : Nat) (o : List RI), n ≤ s.length → s.length - n < k → o.length ≤ n → cenotaphlaw08_From.l0 k (s.map toI) o n = some (o ++ s.drop n)
 | 0, _, _, _, h, _ => by omega
 | k + 1, n, o, hnl, h, ho => by
  have hl : (s.map toI).length = s.length := List.length_map _
  rw [cenotaphlaw08_From.l0]
  by_cases hlt : n < s.length
  ·have hg : s.getD n z28 = s[n] := by simp [List.getD, hlt]
   rw [if_pos (by omega), if_pos (by omega), rdP, toI_at s n hlt, cenotaphlaw07_From.f, toI_cx (hn _ (List.getElem_mem _)), Option.bind_some, Option.bind_some, if_pos (by omega), wrap_nat (by omega), drop_getD s z28 n hlt, hg]
   have := from_loop s hs hn k (n + 1) (o ++ [s[n]]) (by omega) (by omega) (by rw [List.length_append, List.length_singleton]; omega)
   rw [List.append_assoc] at this
   exact this
  ·rw [if_neg (by omega), List.drop_eq_nil_of_le (by omega)]
   simp
theorem from_ok (s : List RI) (hs : s.length ≤ 100000) (hn : ∀ x ∈ s, NearS x) (k : Nat) (hk : s.length < k) : cenotaphlaw08_From.f k (s.map toI) = some s := by
 have := from_loop s hs hn k 0 [] (by omega) (by omega) (by simp)
 rw [List.drop_zero, List.nil_append] at this
 exact this
def gtA (u v : RI) : Bool := newZ u.f1.f0 u.f1.f2 v.f1.f0 v.f1.f2
theorem ref_age_inner (s : List RI) (i : Int) (x : RI) (hx : x.f1.f0.size ≤ 6) (r : List RI) : ∀ (p q : List RI) (K k : Nat), (∀ y ∈ p, y.f1.f0.size ≤ 6) → p.length + q.length ≤ 1000 →
  (∀ k', K ≤ k' → cenotaphref08_ByAge.l0 k' s (sinkR gtA x p q) (wrap64 (i + 1)) = some r) → K + p.length + 20 ≤ k → cenotaphref08_ByAge.l1 k s (p.reverse ++ x :: q) i (p.length : Int) = some r
 | [], q, K, k, hp, hl, h, hk => by
  obtain ⟨k, rfl⟩ : ∃ m, k = m + 1 := ⟨k - 1, by omega⟩
  rw [cenotaphref08_ByAge.l1, if_neg (by simp)]
  exact h k (by simp at hk; omega)
 | u :: p, q, K, k, hp, hl, h, hk => by
  obtain ⟨k, rfl⟩ : ∃ m, k = m + 1 := ⟨k - 1, by omega⟩
  simp only [List.length_cons] at hk hl
  have hu : u.f1.f0.size ≤ 6 := hp u (by simp)
  have e1 : wrap64 (((u :: p).length : Int) - 1) = (p.length : Int) := by rw [wrap_id (by simp only [List.length_cons]; omega) (by simp only [List.length_cons]; omega)]; simp only [List.length_cons]; omega
  have hL : ((u :: p).reverse ++ x :: q) = p.reverse ++ u :: x :: q := by simp
  have h0 : (p.reverse ++ u :: x :: q).getD p.length z28 = u := by
   rw [← List.length_reverse]; simp [List.getD]
  have h1 : (p.reverse ++ u :: x :: q).getD (p.length + 1) z28 = x := by
   have : (p.reverse ++ u :: x :: q) = (p.reverse ++ [u]) ++ x :: q := by simp
   rw [this, show p.length + 1 = (p.reverse ++ [u]).length by simp]
   simp [List.getD]
  have r0 : rd_T28 (p.reverse ++ u :: x :: q) (p.length : Int) = u := by rw [rdR, h0]
  have r1 : rd_T28 (p.reverse ++ u :: x :: q) ((u :: p).length : Int) = x := by rw [rdR, List.length_cons, h1]
  have hlen : (p.reverse ++ u :: x :: q).length = p.length + q.length + 2 := by simp; omega
  rw [cenotaphref08_ByAge.l1, if_pos (by simp only [List.length_cons]; omega), e1, if_pos (by omega), hL, if_pos (by omega), if_pos (by omega), if_pos (by simp only [List.length_cons]; omega), r0, r1,
   ref_newer _ _ _ _ _ _ k (by omega) (by omega), Option.bind_some]
  rw [sinkR] at h
  by_cases hg : newZ u.f1.f0 u.f1.f2 x.f1.f0 x.f1.f2 = true
  ·rw [if_pos hg]
   simp only [gtA, hg, if_true] at h
   have hsw := swap_at z28 p.reverse u x q
   rw [List.length_reverse, h0, h1] at hsw
   have e2 : ((p.length : Int)).toNat = p.length := by omega
   have e3 : (((u :: p).length : Int)).toNat = p.length + 1 := by simp only [List.length_cons]; omega
   rw [e2, e3]
   show cenotaphref08_ByAge.l1 k s (((p.reverse ++ u :: x :: q).set p.length x).set (p.length + 1) u) i (p.length : Int) = _
   rw [hsw]
   exact ref_age_inner s i x hx r p (u :: q) K k (fun y hy => hp y (by simp [hy])) (by simp only [List.length_cons]; omega) h (by omega)
  ·rw [if_neg hg]
   simp only [gtA, hg] at h
   have := h k (by omega)
   simpa using this
theorem sink_ids {s : List RI} {x : RI} (hs : ∀ y ∈ s, y.f1.f0.size ≤ 6) (hx : x.f1.f0.size ≤ 6) : ∀ y ∈ sink gtA x s, y.f1.f0.size ≤ 6 := by
 intro y hy
 rcases mem_sink.mp hy with e | e
 ·rw [e]; exact hx
 ·exact hs y e
theorem ref_age_loop (s : List RI) (hs : s.length ≤ 100) (hi : ∀ y ∈ s, y.f1.f0.size ≤ 6) : ∀ (d n : Nat) (o : List RI), s.length - n = d → n ≤ s.length → o.length ≤ n → (∀ y ∈ o, y.f1.f0.size ≤ 6) → ∀ k, 300 * (d + 1) ≤ k →
  cenotaphref08_ByAge.l0 k s o n = some ((s.drop n).foldl (fun s x => sink gtA x s) o) := by
 intro d
 induction d with
 | zero =>
  intro n o hd hn ho hoi k hk
  obtain ⟨k, rfl⟩ : ∃ m, k = m + 1 := ⟨k - 1, by omega⟩
  rw [cenotaphref08_ByAge.l0, if_neg (by omega), List.drop_eq_nil_of_le (by omega)]; rfl
 | succ d ih =>
  intro n o hd hn ho hoi k hk
  obtain ⟨k, rfl⟩ : ∃ m, k = m + 1 := ⟨k - 1, by omega⟩
  have hlt : n < s.length := by omega
  have hg : s.getD n z28 = s[n] := by simp [List.getD, hlt]
  have hx : s[n].f1.f0.size ≤ 6 := hi _ (List.getElem_mem _)
  rw [cenotaphref08_ByAge.l0, if_pos (by omega), if_pos (by omega), if_pos (by omega), Option.bind_some, rdR, hg, drop_getD s z28 n hlt, hg, List.foldl_cons]
  have e : wrap64 (((o ++ [s[n]]).length : Int) - 1) = (o.reverse.length : Int) := by
   rw [List.length_append, List.length_singleton, List.length_reverse, wrap_id (by omega) (by omega)]; omega
  show cenotaphref08_ByAge.l1 k s (o ++ [s[n]]) n (wrap64 (((o ++ [s[n]]).length : Int) - 1)) = _
  rw [e]
  have h := ref_age_inner s n s[n] hx ((s.drop (n + 1)).foldl (fun s x => sink gtA x s) (sink gtA s[n] o)) o.reverse [] (300 * (d + 1)) k (fun y hy => hoi y (by simpa using hy)) (by simp; omega) (fun k' hk' => by
   rw [wrap_nat (by omega)]
   exact ih (n + 1) _ (by omega) (by omega) (by rw [sink_length]; omega) (sink_ids hoi hx) k' hk') (by rw [List.length_reverse]; omega)
  rw [List.reverse_reverse] at h
  exact h
theorem ref_age (s : List RI) (hs : s.length ≤ 20) (hi : ∀ y ∈ s, y.f1.f0.size ≤ 6) (k : Nat) (hk : 6300 ≤ k) : cenotaphref08_ByAge.f k s = some (isort gtA s) := by
 have := ref_age_loop s (by omega) hi s.length 0 [] rfl (by omega) (by simp) (by simp) k (by omega)
 rw [List.drop_zero] at this
 exact this
theorem bgt_to (u v : RI) : bgt (toI u) (toI v) = gtA u v := by
 show decide ((if newZ v.f1.f0 v.f1.f2 u.f1.f0 u.f1.f2 = true then (1 : Int) else if newZ u.f1.f0 u.f1.f2 v.f1.f0 v.f1.f2 = true then -1 else 0) < 0) = newZ u.f1.f0 u.f1.f2 v.f1.f0 v.f1.f2
 cases h : newZ v.f1.f0 v.f1.f2 u.f1.f0 u.f1.f2 with
 | true => rw [newZ_not_both _ _ _ _ h]; rfl
 | false => cases newZ u.f1.f0 u.f1.f2 v.f1.f0 v.f1.f2 <;> rfl
theorem sinkR_to (x : RI) : ∀ p q : List RI, sinkR bgt (toI x) (p.map toI) (q.map toI) = (sinkR gtA x p q).map toI
 | [], q => rfl
 | u :: p, q => by
  rw [List.map_cons, sinkR, sinkR, bgt_to]
  split
  ·exact sinkR_to x p (u :: q)
  ·simp
theorem isort_to (s : List RI) : isort bgt (s.map toI) = (isort gtA s).map toI := by
 have : ∀ (s o : List RI), (s.map toI).foldl (fun s x => sink bgt x s) (o.map toI) = (s.foldl (fun s x => sink gtA x s) o).map toI := by
  intro s
  induction s with
  | nil => intro o; rfl
  | cons x t ih =>
   intro o
   rw [List.map_cons, List.foldl_cons, List.foldl_cons]
   have e : sink bgt (toI x) (o.map toI) = (sink gtA x o).map toI := by
    unfold sink
    rw [← List.map_reverse]
    exact sinkR_to x o.reverse []
   rw [e, ih]
 exact this s []
theorem own_age (s : List RI) (hs : s.length < 20) : store_ByAge.f (s.map toI) = some ((isort gtA s).map toI) := by
 rw [store_ByAge.f, if_pos (by rw [List.length_map]; exact hs), isort_to]
theorem isort_mem {s : List RI} {x : RI} (h : x ∈ isort gtA s) : x ∈ s := (isort_perm gtA s).mem_iff.mp h
theorem isort_length (s : List RI) : (isort gtA s).length = s.length := (isort_perm gtA s).length_eq
end Go.Proofs.Ytgdkgobplinelaa.Pure
namespace Go.Proofs.Ytgdkgobplinelaa
def memS (u : Int) (e : List Int) (n : Int) : Prop := (1 ≤ n ∧ n ≤ u) ∨ n ∈ e
instance (u : Int) (e : List Int) (n : Int) : Decidable (memS u e n) := by unfold memS; infer_instance
structure OkS (u : Int) (e : List Int) : Prop where
 lo : 0 ≤ u
 up : u ≤ 1048576
 sort : e.Pairwise (fun x y : Int => x < y)
 gap : ∀ x ∈ e, u + 1 < x
 hi : ∀ x ∈ e, x ≤ 1048576
theorem OkS.nil {u : Int} (h0 : 0 ≤ u) (h1 : u ≤ 1048576) : OkS u [] := ⟨h0, h1, List.Pairwise.nil, by simp, by simp⟩
theorem OkS.mem_pos {u : Int} {e : List Int} (h : OkS u e) {n : Int} (hm : memS u e n) : 1 ≤ n ∧ n ≤ 1048576 := by
 rcases hm with hm | hm
 ·exact ⟨hm.1, Int.le_trans hm.2 h.up⟩
 ·have := h.gap n hm; have := h.hi n hm; have := h.lo; omega
theorem okS_unique {u1 u2 : Int} {e1 e2 : List Int} (h1 : OkS u1 e1) (h2 : OkS u2 e2) (h : ∀ n, memS u1 e1 n ↔ memS u2 e2 n) : u1 = u2 ∧ e1 = e2 := by
 have key : ∀ {u1 u2 : Int} {e1 e2 : List Int}, OkS u1 e1 → OkS u2 e2 → (∀ n, memS u1 e1 n ↔ memS u2 e2 n) → ¬ u1 < u2 := by
  intro u1 u2 e1 e2 h1 h2 h hlt
  have hm : memS u2 e2 (u1 + 1) := Or.inl ⟨by have := h1.lo; omega, by omega⟩
  rcases (h _).mpr hm with hx | hx
  ·omega
  ·have := h1.gap _ hx; omega
 have hu : u1 = u2 := by
  have a := key h1 h2 h
  have b := key h2 h1 fun n => (h n).symm
  omega
 subst hu
 refine ⟨rfl, ssort_unique toZ h1.sort h2.sort fun x => ?_⟩
 constructor
 ·intro hx
  rcases (h x).mp (Or.inr hx) with hy | hy
  ·have := h1.gap x hx; omega
  ·exact hy
 ·intro hx
  rcases (h x).mpr (Or.inr hx) with hy | hy
  ·have := h2.gap x hx; omega
  ·exact hy
def foldZ (u : Int) : List Int → Int × List Int
 | [] => (u, [])
 | x :: t => if x ≤ u + 1 then foldZ (if u < x then x else u) t else (u, x :: t)
theorem foldZ_spec : ∀ (l : List Int) (u : Int), 0 ≤ u → u ≤ 1048576 → l.Pairwise (fun x y : Int => x < y) → (∀ x ∈ l, 1 ≤ x ∧ x ≤ 1048576) →
  OkS (foldZ u l).1 (foldZ u l).2 ∧ (∀ n, memS (foldZ u l).1 (foldZ u l).2 n ↔ memS u l n) ∧ (foldZ u l).2.length ≤ l.length
 | [], u, h0, h1, _, _ => ⟨OkS.nil h0 h1, fun _ => Iff.rfl, Nat.le_refl _⟩
 | x :: t, u, h0, h1, hs, hm => by
  have hx := hm x (by simp)
  rw [List.pairwise_cons] at hs
  unfold foldZ
  by_cases hc : x ≤ u + 1
  ·rw [if_pos hc]
   obtain ⟨a, b, c⟩ := foldZ_spec t (if u < x then x else u) (by split <;> omega) (by split <;> omega) hs.2 fun y hy => hm y (by simp [hy])
   refine ⟨a, fun n => (b n).trans ?_, Nat.le_trans c (by simp)⟩
   unfold memS
   rw [List.mem_cons]
   by_cases hux : u < x
   ·rw [if_pos hux]
    constructor
    ·rintro (h | h)
     ·by_cases hn : n ≤ u
      ·exact Or.inl ⟨h.1, hn⟩
      ·exact Or.inr (Or.inl (by omega))
     ·exact Or.inr (Or.inr h)
    ·rintro (h | h | h)
     ·exact Or.inl ⟨h.1, by omega⟩
     ·exact Or.inl ⟨by omega, by omega⟩
     ·exact Or.inr h
   ·rw [if_neg hux]
    constructor
    ·rintro (h | h)
     ·exact Or.inl h
     ·exact Or.inr (Or.inr h)
    ·rintro (h | h | h)
     ·exact Or.inl h
     ·exact Or.inl ⟨by omega, by omega⟩
     ·exact Or.inr h
  ·rw [if_neg hc]
   refine ⟨⟨h0, h1, ?_, ?_, fun y hy => (hm y hy).2⟩, fun _ => Iff.rfl, Nat.le_refl _⟩
   ·rw [List.pairwise_cons]; exact hs
   ·intro y hy
    rcases List.mem_cons.mp hy with e | e
    ·subst e; omega
    ·have := hs.1 y e; omega
def unionS (u1 : Int) (e1 : List Int) (u2 : Int) (e2 : List Int) : Int × List Int := foldZ (if u1 < u2 then u2 else u1) (unionZ (e1 ++ e2))
theorem addS_spec {u : Int} {e : List Int} (h : OkS u e) {n : Int} (h0 : 1 ≤ n) (h1 : n ≤ 1048576) :
  OkS (unionS u e 0 [n]).1 (unionS u e 0 [n]).2 ∧ (∀ m, memS (unionS u e 0 [n]).1 (unionS u e 0 [n]).2 m ↔ memS u e m ∨ m = n) ∧ (unionS u e 0 [n]).2.length ≤ e.length + 1 := by
 have a := h.lo; have b := h.up
 have hu : (if u < 0 then 0 else u) = u := if_neg (by omega)
 obtain ⟨x, y, z⟩ := foldZ_spec (unionZ (e ++ [n])) u a b (unionZ_sorted _) fun m hm => by
  rw [mem_unionZ, List.mem_append, List.mem_singleton] at hm
  rcases hm with hm | hm
  ·exact h.mem_pos (Or.inr hm)
  ·omega
 unfold unionS
 rw [hu]
 refine ⟨x, fun m => (y m).trans ?_, Nat.le_trans z (Nat.le_trans (unionZ_length _) (by simp))⟩
 unfold memS
 rw [mem_unionZ, List.mem_append, List.mem_singleton]
 constructor
 ·rintro (h | h | h)
  ·exact Or.inl (Or.inl h)
  ·exact Or.inl (Or.inr h)
  ·exact Or.inr h
 ·rintro ((h | h) | h)
  ·exact Or.inl h
  ·exact Or.inr (Or.inl h)
  ·exact Or.inr (Or.inr h)
end Go.Proofs.Ytgdkgobplinelaa
namespace Go.Proofs.Ytgdkgobplinelaa
set_option linter.unusedVariables false
section
structure RoN (ρ : Type) where
 id : ρ → ByteArray
 u : ρ → Int
 e : ρ → List Int
 of : ByteArray → Int → List Int → ρ
 id_of : ∀ a m l, id (of a m l) = a
 u_of : ∀ a m l, u (of a m l) = m
 e_of : ∀ a m l, e (of a m l) = l
 of_eq : ∀ x, of (id x) (u x) (e x) = x
variable {ρ σ : Type}
def ofN (t : RoN ρ) (m : List ρ) (a : ByteArray) : Int × List Int := match getM t.id a m with | some x => (t.u x, t.e x) | none => (0, [])
structure OkN (t : RoN ρ) (m : List ρ) : Prop where
 ks : KS ltB t.id m
 ok : ∀ x ∈ m, OkS (t.u x) (t.e x)
 ne : ∀ x ∈ m, ∃ n, memS (t.u x) (t.e x) n
 right : ∀ x ∈ m, rightB (t.id x) = true
variable {t : RoN ρ} {t2 : RoN σ}
theorem OkN.nil : OkN t [] := ⟨KS.nil, by simp, by simp, by simp⟩
theorem ofN_nil (a : ByteArray) : ofN t [] a = (0, []) := rfl
theorem ofN_cons (x : ρ) (l : List ρ) (a : ByteArray) : ofN t (x :: l) a = if t.id x = a then (t.u x, t.e x) else ofN t l a := by
 unfold ofN
 rw [getM]
 by_cases h : t.id x = a
 ·rw [if_pos h, if_pos h]
 ·rw [if_neg h, if_neg h]
theorem ofN_cases (t : RoN ρ) (m : List ρ) (a : ByteArray) : (∃ x ∈ m, t.id x = a ∧ ofN t m a = (t.u x, t.e x) ∧ getM t.id a m = some x) ∨ ((∀ x ∈ m, t.id x ≠ a) ∧ ofN t m a = (0, []) ∧ getM t.id a m = none) := by
 unfold ofN
 cases hg : getM t.id a m with
 | none => exact Or.inr ⟨(getM_none a).mp hg, rfl, rfl⟩
 | some x =>
  obtain ⟨p, q⟩ := getM_mem a hg
  exact Or.inl ⟨x, p, q, rfl, rfl⟩
theorem OkN.ofN {m : List ρ} (h : OkN t m) (a : ByteArray) : OkS (ofN t m a).1 (ofN t m a).2 := by
 rcases ofN_cases t m a with ⟨x, hx, _, e, _⟩ | ⟨_, e, _⟩
 ·rw [e]; exact h.ok x hx
 ·rw [e]; exact OkS.nil (by decide) (by decide)
def memN (t : RoN ρ) (m : List ρ) (a : ByteArray) (n : Int) : Prop := memS (ofN t m a).1 (ofN t m a).2 n
instance (t : RoN ρ) (m : List ρ) (a : ByteArray) (n : Int) : Decidable (memN t m a n) := by unfold memN; infer_instance
theorem memS_none (n : Int) : ¬ memS 0 [] n := by unfold memS; rintro (h | h); omega; cases h
theorem memN_nil (a : ByteArray) (n : Int) : ¬ memN t [] a n := memS_none n
theorem OkN.get {m : List ρ} (h : OkN t m) {x : ρ} (hx : x ∈ m) : Go.Proofs.Ytgdkgobplinelaa.ofN t m (t.id x) = (t.u x, t.e x) := by
 unfold Go.Proofs.Ytgdkgobplinelaa.ofN
 rw [(getM_some toB h.ks (t.id x) x).mpr ⟨hx, rfl⟩]
theorem OkN.mem {m : List ρ} (h : OkN t m) {x : ρ} (hx : x ∈ m) (n : Int) : memN t m (t.id x) n ↔ memS (t.u x) (t.e x) n := by
 unfold memN; rw [h.get hx]
theorem OkN.tail {x : ρ} {m : List ρ} (h : OkN t (x :: m)) : OkN t m := ⟨h.ks.tail, fun y hy => h.ok y (by simp [hy]), fun y hy => h.ne y (by simp [hy]), fun y hy => h.right y (by simp [hy])⟩
theorem OkN.sub {m m' : List ρ} (h : OkN t m) (hs : m'.Sublist m) : OkN t m' := ⟨List.Pairwise.sublist hs h.ks, fun y hy => h.ok y (hs.mem hy), fun y hy => h.ne y (hs.mem hy), fun y hy => h.right y (hs.mem hy)⟩
theorem OkN.ext {a b : List ρ} (ha : OkN t a) (hb : OkN t b) (h : ∀ i n, memN t a i n ↔ memN t b i n) : a = b := by
 refine KS.ext toB ha.ks hb.ks fun k => ?_
 have hv := okS_unique (ha.ofN k) (hb.ofN k) (h k)
 rcases ofN_cases t a k with ⟨x, hx, e1, e2, e3⟩ | ⟨_, e2, e3⟩
 ·rcases ofN_cases t b k with ⟨y, hy, f1, f2, f3⟩ | ⟨_, f2, f3⟩
  ·rw [e2, f2] at hv
   rw [e3, f3, ← t.of_eq x, ← t.of_eq y, e1, f1]
   dsimp only at hv
   rw [hv.1, hv.2]
  ·obtain ⟨n, hn⟩ := ha.ne x hx
   have := (h k n).mp (by unfold memN; rw [e2]; exact hn)
   unfold memN at this
   rw [f2] at this
   exact absurd this (memS_none n)
 ·rcases ofN_cases t b k with ⟨y, hy, f1, f2, f3⟩ | ⟨_, f2, f3⟩
  ·obtain ⟨n, hn⟩ := hb.ne y hy
   have := (h k n).mpr (by unfold memN; rw [f2]; exact hn)
   unfold memN at this
   rw [e2] at this
   exact absurd this (memS_none n)
  ·rw [e3, f3]
theorem OkN.put {m : List ρ} (h : OkN t m) {a : ByteArray} (ha : rightB a = true) {u : Int} {e : List Int} (hw : OkS u e) (hn : ∃ n, memS u e n) : OkN t (putM ltB t.id (t.of a u e) m) := by
 refine ⟨putM_KS toB _ h.ks, fun x hx => ?_, fun x hx => ?_, fun x hx => ?_⟩ <;> rcases (mem_putM _ _ _).mp hx with e | ⟨hx, _⟩
 ·rw [e, t.u_of, t.e_of]; exact hw
 ·exact h.ok x hx
 ·rw [e, t.u_of, t.e_of]; exact hn
 ·exact h.ne x hx
 ·rw [e, t.id_of]; exact ha
 ·exact h.right x hx
theorem ofN_put {m : List ρ} (h : KS ltB t.id m) (a : ByteArray) (u : Int) (e : List Int) (b : ByteArray) : ofN t (putM ltB t.id (t.of a u e) m) b = if b = a then (u, e) else ofN t m b := by
 unfold ofN
 rw [getM_putM toB _ h, t.id_of]
 by_cases hc : b = a
 ·rw [if_pos hc, if_pos hc]; show (t.u (t.of a u e), t.e (t.of a u e)) = _; rw [t.u_of, t.e_of]
 ·rw [if_neg hc, if_neg hc]
theorem OkN.drop {m : List ρ} (h : OkN t m) (a : ByteArray) : OkN t (dropM t.id a m) :=
 ⟨dropM_KS h.ks a, fun x hx => h.ok x ((mem_dropM _ _ _).mp hx).1, fun x hx => h.ne x ((mem_dropM _ _ _).mp hx).1, fun x hx => h.right x ((mem_dropM _ _ _).mp hx).1⟩
theorem ofN_drop (a b : ByteArray) (m : List ρ) : ofN t (dropM t.id a m) b = if b = a then (0, []) else ofN t m b := by
 unfold ofN
 rw [getM_dropM]
 by_cases e : b = a
 ·rw [if_pos e, if_pos e]
 ·rw [if_neg e, if_neg e]
theorem memN_drop (a b : ByteArray) (m : List ρ) (n : Int) : memN t (dropM t.id a m) b n ↔ b ≠ a ∧ memN t m b n := by
 unfold memN
 rw [ofN_drop]
 by_cases e : b = a
 ·rw [if_pos e]; exact ⟨fun h => absurd h (memS_none n), fun h => absurd e h.1⟩
 ·rw [if_neg e]; exact ⟨fun h => ⟨e, h⟩, fun h => h.2⟩
def convN (t : RoN ρ) (t2 : RoN σ) (m : List ρ) : List σ := m.map fun x => t2.of (t.id x) (t.u x) (t.e x)
theorem ofN_conv (a : ByteArray) : ∀ m : List ρ, ofN t2 (convN t t2 m) a = ofN t m a
 | [] => rfl
 | x :: m => by
  have := ofN_conv a m
  unfold convN at this ⊢
  rw [List.map_cons, ofN_cons, ofN_cons, t2.id_of, t2.u_of, t2.e_of, this]
theorem memN_conv (m : List ρ) (a : ByteArray) (n : Int) : memN t2 (convN t t2 m) a n ↔ memN t m a n := by
 unfold memN; rw [ofN_conv]
theorem convN_ok {m : List ρ} (h : OkN t m) : OkN t2 (convN t t2 m) := by
 refine ⟨?_, fun y hy => ?_, fun y hy => ?_, fun y hy => ?_⟩
 ·unfold KS convN
  rw [List.pairwise_map]
  exact h.ks.imp fun {x y} hxy => by rw [t2.id_of, t2.id_of]; exact hxy
 ·obtain ⟨x, hx, e⟩ := List.mem_map.mp hy
  rw [← e, t2.u_of, t2.e_of]; exact h.ok x hx
 ·obtain ⟨x, hx, e⟩ := List.mem_map.mp hy
  rw [← e, t2.u_of, t2.e_of]; exact h.ne x hx
 ·obtain ⟨x, hx, e⟩ := List.mem_map.mp hy
  rw [← e, t2.id_of]; exact h.right x hx
theorem convN_length (m : List ρ) : (convN t t2 m).length = m.length := by simp [convN]
def LimN (t : RoN ρ) (q : Nat) (m : List ρ) : Prop := ∀ x ∈ m, (t.e x).length ≤ q
def LowN (t : RoN ρ) (c : Int) (m : List ρ) : Prop := ∀ a n, memN t m a n → n ≤ c
theorem LimN.nil {q : Nat} : LimN t q [] := fun _ h => by cases h
theorem LimN.imp {q q' : Nat} {m : List ρ} (h : LimN t q m) (hq : q ≤ q') : LimN t q' m := fun x hx => Nat.le_trans (h x hx) hq
theorem LimN.of {q : Nat} {m : List ρ} (h : LimN t q m) (a : ByteArray) : (ofN t m a).2.length ≤ q := by
 rcases ofN_cases t m a with ⟨x, hx, _, e, _⟩ | ⟨_, e, _⟩
 ·rw [e]; exact h x hx
 ·rw [e]; exact Nat.zero_le _
theorem LimN.conv {q : Nat} {m : List ρ} (h : LimN t q m) : LimN t2 q (convN t t2 m) := fun y hy => by
 obtain ⟨x, hx, e⟩ := List.mem_map.mp hy
 rw [← e, t2.e_of]; exact h x hx
theorem LimN.sub {q : Nat} {m m' : List ρ} (h : LimN t q m) (hs : ∀ x ∈ m', x ∈ m) : LimN t q m' := fun x hx => h x (hs x hx)
theorem LimN.put {q : Nat} {m : List ρ} (h : LimN t q m) (a : ByteArray) (u : Int) {e : List Int} (he : e.length ≤ q) : LimN t q (putM ltB t.id (t.of a u e) m) := fun x hx => by
 rcases (mem_putM _ _ _).mp hx with e | ⟨hx, _⟩
 ·rw [e, t.e_of]; exact he
 ·exact h x hx
theorem LowN.conv {c : Int} {m : List ρ} (h : LowN t c m) : LowN t2 c (convN t t2 m) := fun a n hn => h a n ((memN_conv m a n).mp hn)
theorem LowN.row {c : Int} {m : List ρ} (h : LowN t c m) (hok : OkN t m) (hc : 0 ≤ c) {x : ρ} (hx : x ∈ m) : t.u x ≤ c := by
 by_cases h1 : 1 ≤ t.u x
 ·exact h (t.id x) (t.u x) ((hok.mem hx _).mpr (Or.inl ⟨h1, Int.le_refl _⟩))
 ·omega
theorem okS_some {u : Int} {e : List Int} (h : OkS u e) : (∃ n, memS u e n) ↔ 1 ≤ u + (e.length : Int) := by
 have h0 := h.lo
 constructor
 ·rintro ⟨n, hn | hn⟩
  ·omega
  ·have := List.length_pos_of_mem hn; omega
 ·intro hh
  by_cases hu : 1 ≤ u
  ·exact ⟨1, Or.inl ⟨by omega, hu⟩⟩
  ·cases e with
   | nil => simp at hh; omega
   | cons x l => exact ⟨x, Or.inr (by simp)⟩
end
end Go.Proofs.Ytgdkgobplinelaa
namespace Go.Proofs.Ytgdkgobplinelaa
set_option linter.unusedVariables false
section
variable {α β : Type}
structure AtS (α : Type) where
 id : α → ByteArray
 n : α → Int
 of : ByteArray → Int → α
 id_of : ∀ a n, id (of a n) = a
 n_of : ∀ a m, n (of a m) = m
 of_eq : ∀ x, of (id x) (n x) = x
theorem AtS.ext (s : AtS α) {x y : α} (h1 : s.id x = s.id y) (h2 : s.n x = s.n y) : x = y := by
 rw [← s.of_eq x, ← s.of_eq y, h1, h2]
variable {s : AtS α}
end
end Go.Proofs.Ytgdkgobplinelaa
namespace Go.Proofs.Ytgdkgobplinelaa.Pure
open Go.RowKit Go.Proofs.Ytgdkgobplinelaa Go.Proofs.Ytgdkgobplinelaa.P Go.Proofs.YtgdkgobplinelaaW.PrintWords Go.Proofs.YtgdkgobplinelaaW.PrintLast
set_option linter.unusedVariables false
set_option linter.unusedSimpArgs false
def addS (u : Int) (e : List Int) (n : Int) : Int × List Int := if n < 1 ∨ n > 1048576 then (u, e) else unionS u e 0 [n]
theorem addS_ok {u : Int} {e : List Int} (h : OkS u e) (n : Int) :
  OkS (addS u e n).1 (addS u e n).2 ∧ (∀ m, memS (addS u e n).1 (addS u e n).2 m ↔ memS u e m ∨ (m = n ∧ 1 ≤ n ∧ n ≤ 1048576)) ∧ (addS u e n).2.length ≤ e.length + 1 := by
 unfold addS
 by_cases hc : n < 1 ∨ n > 1048576
 ·rw [if_pos hc]
  refine ⟨h, fun m => ⟨Or.inl, fun hm => ?_⟩, by simp⟩
  rcases hm with hm | hm
  ·exact hm
  ·omega
 ·rw [if_neg hc]
  obtain ⟨a, b, c⟩ := addS_spec h (by omega : 1 ≤ n) (by omega : n ≤ 1048576)
  refine ⟨a, fun m => (b m).trans ?_, c⟩
  constructor
  ·rintro (x | x)
   ·exact Or.inl x
   ·exact Or.inr ⟨x, by omega, by omega⟩
  ·rintro (x | x)
   ·exact Or.inl x
   ·exact Or.inr x.1
theorem less_ok (a b : Int) : cmp_Less_int.f a b = some (decide (a < b)) := by
 simp [cmp_Less_int.f, cmp_isNaN_int.f]
theorem search_loop (l : List Int) (x : Int) (hl : l.length < 4611686018427387904) : ∀ (f i j : Nat), i ≤ j → j ≤ l.length → j - i < f → ∀ k, f < k →
  slices_BinarySearch_int_int.l0 k l x (l.length : Int) (i : Int) (j : Int) = some (((bsI (fun m => l.getD m 0 - x) f i j : Nat) : Int), decide (bsI (fun m => l.getD m 0 - x) f i j < l.length ∧ l.getD (bsI (fun m => l.getD m 0 - x) f i j) 0 - x = 0))
 | 0, i, j, hij, hj, hf, k, hk => absurd hf (by omega)
 | f + 1, i, j, hij, hj, hf, k, hk => by
  obtain ⟨k, rfl⟩ : ∃ m, k = m + 1 := ⟨k - 1, by omega⟩
  simp only [slices_BinarySearch_int_int.l0]
  unfold bsI
  by_cases h : i < j
  ·have e1 : wrap64 ((i : Int) + (j : Int)) = ((i + j : Nat) : Int) := by rw [wrap_id (by omega) (by omega)]; omega
   have e2 : IntKind.u64.wrap ((i + j : Nat) : Int) = ((i + j : Nat) : Int) := u64_id (by omega) (by omega)
   have e3 : wrap64 (((i + j : Nat) : Int) / 2) = (((i + j) / 2 : Nat) : Int) := by rw [wrap_id (by omega) (by omega)]; omega
   rw [if_pos (by omega), if_pos h, e1, e2, e3, if_pos (by omega), if_pos (by omega), rd_int, less_ok, Option.bind_some]
   by_cases hc : l.getD ((i + j) / 2) 0 < x
   ·rw [if_pos (decide_eq_true hc), if_pos (by omega), wrap_nat (by omega)]
    exact search_loop l x hl f _ j (by omega) hj (by omega) k (by omega)
   ·rw [if_neg (by simpa using hc), if_neg (by omega)]
    exact search_loop l x hl f i _ (by omega) (by omega) (by omega) k (by omega)
  ·rw [if_neg (by omega), if_neg h]
   by_cases hn : i < l.length
   ·rw [if_pos (by omega), if_pos (by omega), if_pos (by omega), rd_int]
    by_cases hx : l.getD i 0 = x
    ·rw [if_pos hx, decide_eq_true ⟨hn, by omega⟩]
    ·rw [if_neg hx, decide_eq_false (by omega)]
     simp [slices_isNaN_int.f]
   ·rw [if_neg (by omega), decide_eq_false (by omega)]
theorem search_ok (l : List Int) (x : Int) (hs : l.Pairwise (fun x y : Int => x < y)) (hl : l.length < 4611686018427387904) (k : Nat) (hk : l.length + 2 ≤ k) :
  ∃ p b, slices_BinarySearch_int_int.f k l x = some (p, b) ∧ (b = true ↔ x ∈ l) := by
 have h := search_loop l x hl (l.length + 1) 0 l.length (by omega) (by omega) (by omega) k (by omega)
 refine ⟨_, _, h, ?_⟩
 have hp : ∀ i j, i < j → j < l.length → l.getD i 0 < l.getD j 0 := by
  intro i j hij hj
  have := List.pairwise_iff_getElem.mp hs i j (by omega) hj hij
  simpa [List.getD, List.getElem?_eq_getElem hj, List.getElem?_eq_getElem (show i < l.length by omega)] using this
 have hb := bsB_iff (fun m => l.getD m 0 - x) l.length (fun i j hij hj hc => by have := hp i j hij hj; omega) (fun i j hij hj hc => by have := hp i j hij hj; omega)
 have e : decide (bsI (fun m => l.getD m 0 - x) (l.length + 1) 0 l.length < l.length ∧ l.getD (bsI (fun m => l.getD m 0 - x) (l.length + 1) 0 l.length) 0 - x = 0) = bsB (fun m => l.getD m 0 - x) l.length := by
  unfold bsB bsN
  rw [Bool.eq_iff_iff]; simp
 rw [e, hb]
 constructor
 ·rintro ⟨i, hi, hc⟩
  have : l.getD i 0 = x := by omega
  exact this ▸ getD_memZ hi
 ·intro hx
  obtain ⟨i, hi, e⟩ := List.mem_iff_getElem.mp hx
  refine ⟨i, hi, ?_⟩
  have : l.getD i 0 = x := by simp [List.getD, List.getElem?_eq_getElem hi, e]
  omega
theorem span_has (u : Int) (e : List Int) (n : Int) (h : OkS u e) (hl : e.length < 1000000) (k : Nat) (hk : e.length + 2 ≤ k) : span_Has.f k u e n = some (decide (memS u e n)) := by
 unfold span_Has.f
 by_cases hc : n ≤ u
 ·rw [if_pos hc]
  congr 1
  rw [decide_eq_decide]
  unfold memS
  constructor
  ·intro x; exact Or.inl ⟨x, hc⟩
  ·rintro (x | x)
   ·exact x.1
   ·have := h.gap n x; omega
 ·rw [if_neg hc]
  obtain ⟨p, b, hf, hb⟩ := search_ok e n h.sort (by omega) k hk
  rw [hf, Option.bind_some]
  congr 1
  rw [Bool.eq_iff_iff, hb, decide_eq_true_eq]
  unfold memS
  exact ⟨Or.inr, fun x => x.elim (fun y => absurd y.2 hc) id⟩
abbrev SK := S100
def tK : RoN SK := ⟨fun x => x.f0, fun x => x.f1.f0, fun x => x.f1.f1, fun a u e => ⟨a, ⟨u, e⟩⟩, fun _ _ _ => rfl, fun _ _ _ => rfl, fun _ _ _ => rfl, fun _ => rfl⟩
theorem kn_toL {a b : ByteArray} : a.toList = b.toList ↔ a = b := by
 rw [Lib.toList_data, Lib.toList_data]
 exact ⟨fun h => bytes_ext h, fun h => by rw [h]⟩
theorem kn_size {a : ByteArray} (h : rightB a = true) : a.size ≤ 6 := by
 rw [rightB_eq] at h
 have hs := size_list a
 cases e : a.data.toList with
 | nil => rw [e] at h; simp [idL] at h
 | cons c t =>
  rw [e] at h hs
  simp only [idL, Bool.and_eq_true, decide_eq_true_eq] at h
  simp only [List.length_cons] at hs
  omega
theorem rdK (l : List SK) (n : Nat) : rd_T100 l (n : Int) = l.getD n z100 := rfl
theorem findK {m : List SK} (h : KS ltB tK.id m) (a : ByteArray) :
 (mB m a = true → ∃ hi : mN m a < m.length, (m[mN m a]).f0 = a ∧ getM tK.id a m = some m[mN m a]) ∧
 (mB m a = false → getM tK.id a m = none ∧ mN m a ≤ m.length ∧ (∀ x ∈ m.take (mN m a), ltB x.f0 a) ∧ ∀ x ∈ m.drop (mN m a), ltB a x.f0) := find_spec (key := tK.id) z100 h a
theorem kn_has {m : List SK} (h : OkN tK m) {q : Nat} (hq : LimN tK q m) (hq2 : q < 100000) (hm : m.length < 100000) (a : ByteArray) (n : Int) (k : Nat) (hk : q + 2 ≤ k) : know_Has.f k m a n = some (decide (memN tK m a n)) := by
 obtain ⟨h1, h2⟩ := findK h.ks a
 unfold know_Has.f know_find.f
 rw [if_pos (by omega), Option.bind_some]
 dsimp only
 cases hb : mB m a with
 | true =>
  obtain ⟨hi, e, g⟩ := h1 hb
  have hmem : m[mN m a] ∈ m := List.getElem_mem hi
  have hx2 : (m[mN m a]).f1.f1.length ≤ q := hq _ hmem
  have hok : OkS (m[mN m a]).f1.f0 (m[mN m a]).f1.f1 := h.ok _ hmem
  have hof : ofN tK m a = ((m[mN m a]).f1.f0, (m[mN m a]).f1.f1) := by unfold ofN; rw [g]; rfl
  rw [if_pos rfl, if_pos (by omega), if_pos (by omega), rdK, getD_eq hi, span_has _ _ n hok (by omega) k (by omega), Option.bind_some]
  congr 1
  rw [decide_eq_decide]
  unfold memN
  rw [hof]
 | false =>
  obtain ⟨g, _⟩ := h2 hb
  have hof : ofN tK m a = (0, []) := by unfold ofN; rw [g]
  rw [if_neg (by simp), decide_eq_false]
  unfold memN
  rw [hof]
  exact memS_none n
theorem rhas_loop (x : Int) (u : Int) (l : List Int) (hl : l.length < 8796093022208) (d : Nat) : ∀ (k n : Nat), l.length - n = d → n ≤ l.length → d < k →
  cenotaphref02_Has.l0 k x (n : Int) u l = some (decide (x ∈ l.drop n)) := by
 induction d with
 | zero =>
  intro k n hd hn hk
  obtain ⟨k, rfl⟩ : ∃ m, k = m + 1 := ⟨k - 1, by omega⟩
  simp only [cenotaphref02_Has.l0]
  rw [if_neg (by omega), List.drop_eq_nil_of_le (by omega)]; rfl
 | succ d ih =>
  intro k n hd hn hk
  obtain ⟨k, rfl⟩ : ∃ m, k = m + 1 := ⟨k - 1, by omega⟩
  simp only [cenotaphref02_Has.l0]
  rw [if_pos (by omega), if_pos (by omega), rd_int, drop_getD l 0 n (by omega)]
  by_cases h : l.getD n 0 = x
  ·rw [if_pos h, h]; congr 1; symm; rw [decide_eq_true_eq]; simp
  ·rw [if_neg h, wrap_nat (by omega), ih k (n + 1) (by omega) (by omega) (by omega)]
   congr 1
   rw [decide_eq_decide, List.mem_cons]
   exact ⟨Or.inr, fun e => e.resolve_left fun e => h e.symm⟩
theorem sp_has (u : Int) (l : List Int) (x : Int) (hl : l.length < 8796093022208) (k : Nat) (hk : l.length + 1 < k) : cenotaphref02_Has.f k u l x = some (decide (memS u l x)) := by
 obtain ⟨k, rfl⟩ : ∃ m, k = m + 1 := ⟨k - 1, by omega⟩
 have hloop := rhas_loop x u l hl l.length k 0 (by omega) (by omega) (by omega)
 unfold cenotaphref02_Has.f
 by_cases h1 : x ≥ 1
 ·rw [if_pos h1]
  by_cases h2 : x ≤ u
  ·rw [decide_eq_true h2]
   simp only [cenotaphref02_Has.j0]
   rw [if_pos trivial]
   congr 1; symm; rw [decide_eq_true_eq]
   exact Or.inl ⟨h1, h2⟩
  ·rw [decide_eq_false h2]
   simp only [cenotaphref02_Has.j0]
   rw [if_neg (by simp)]
   refine hloop.trans ?_
   congr 1
   rw [decide_eq_decide]
   unfold memS
   exact ⟨Or.inr, fun e => e.elim (fun e => absurd e.2 h2) id⟩
 ·rw [if_neg h1]
  simp only [cenotaphref02_Has.j0]
  rw [if_neg (by simp)]
  refine hloop.trans ?_
  congr 1
  rw [decide_eq_decide]
  unfold memS
  exact ⟨Or.inr, fun e => e.elim (fun e => absurd e.1 h1) id⟩
def insZ (n : Int) : List Int → List Int
 | [] => [n]
 | x :: t => if x > n then n :: x :: t else x :: insZ n t
theorem insZ_mem (n : Int) : ∀ (l : List Int) (m : Int), m ∈ insZ n l ↔ m ∈ l ∨ m = n
 | [], m => by simp [insZ]
 | x :: t, m => by
  unfold insZ
  split
  ·rw [List.mem_cons]; exact Or.comm
  ·rw [List.mem_cons, insZ_mem n t m, List.mem_cons, or_assoc]
theorem insZ_length (n : Int) : ∀ (l : List Int), (insZ n l).length = l.length + 1
 | [] => rfl
 | x :: t => by
  unfold insZ
  split
  ·rfl
  ·simp [insZ_length n t]
theorem insZ_sorted (n : Int) : ∀ (l : List Int), l.Pairwise (fun x y : Int => x < y) → n ∉ l → (insZ n l).Pairwise (fun x y : Int => x < y)
 | [], _, _ => List.pairwise_singleton _ _
 | x :: t, hs, hn => by
  have hs' := hs
  rw [List.pairwise_cons] at hs
  rw [List.mem_cons, not_or] at hn
  unfold insZ
  split
  ·rename_i h
   rw [List.pairwise_cons]
   refine ⟨fun y hy => ?_, hs'⟩
   rcases List.mem_cons.mp hy with e | e
   ·subst e; exact h
   ·have := hs.1 y e; omega
  ·rename_i h
   rw [List.pairwise_cons]
   refine ⟨fun y hy => ?_, insZ_sorted n t hs.2 hn.2⟩
   rcases (insZ_mem n t y).mp hy with e | e
   ·exact hs.1 y e
   ·subst e; omega
theorem radd_l1 (d : Nat) : ∀ (l : List Int) (u : Int) (k : Nat), l.length = d → l.length < 1000000 → 0 ≤ u → u ≤ 1048576 → l.Pairwise (fun x y : Int => x < y) → (∀ x ∈ l, u < x ∧ x ≤ 1048576) → d < k → cenotaphref02_Add.l1 k l u = some (foldZ u l) := by
 induction d with
 | zero =>
  intro l u k hd hl h0 h1 hs hm hk
  obtain ⟨k, rfl⟩ : ∃ m, k = m + 1 := ⟨k - 1, by omega⟩
  have : l = [] := List.eq_nil_of_length_eq_zero hd
  subst this
  simp only [cenotaphref02_Add.l1]
  rw [if_neg (by simp)]; rfl
 | succ d ih =>
  intro l u k hd hl h0 h1 hs hm hk
  obtain ⟨k, rfl⟩ : ∃ m, k = m + 1 := ⟨k - 1, by omega⟩
  cases l with
  | nil => simp at hd
  | cons x t =>
   simp only [List.length_cons] at hd hl
   have hx := hm x (by simp)
   rw [List.pairwise_cons] at hs
   simp only [cenotaphref02_Add.l1, List.length_cons]
   have hr : rd (x :: t) 0 = x := rfl
   rw [if_pos (by omega), if_pos (by omega), hr, wrap_id (by omega) (by omega)]
   unfold foldZ
   by_cases h : x = u + 1
   ·rw [if_pos h, if_pos (by omega), if_pos (by omega), if_pos (by omega)]
    have e : (x :: t).drop (1 : Int).toNat = t := rfl
    rw [e, h]
    exact ih t (u + 1) k (by omega) (by omega) (by omega) (by omega) hs.2 (fun y hy => ⟨by have := hs.1 y hy; omega, (hm y (by simp [hy])).2⟩) (by omega)
   ·rw [if_neg h, if_neg (by omega)]
    simp only [Option.bind_some, List.nil_append, List.length_nil, List.length_cons]
    rw [if_pos (by omega)]
theorem radd_l0t (x : Int) (u : Int) (e : List Int) (hl : e.length < 1000000) (r : Option (Int × List Int)) (d : Nat) : ∀ (k n : Nat) (acc : List Int), e.length - n = d → n ≤ e.length → acc.length < 2000000 + n →
  (∀ k', k - d - 2 ≤ k' → cenotaphref02_Add.l1 k' (acc ++ e.drop n) u = r) → d + 2 < k → cenotaphref02_Add.l0 k x acc true (n : Int) u e = r := by
 induction d with
 | zero =>
  intro k n acc hd hn ha hr hk
  obtain ⟨k, rfl⟩ : ∃ m, k = m + 2 := ⟨k - 2, by omega⟩
  simp only [cenotaphref02_Add.l0]
  rw [if_neg (by omega), if_pos trivial]
  simp only [cenotaphref02_Add.j2]
  have := hr k (by omega)
  rwa [List.drop_eq_nil_of_le (by omega), List.append_nil] at this
 | succ d ih =>
  intro k n acc hd hn ha hr hk
  obtain ⟨k, rfl⟩ : ∃ m, k = m + 1 := ⟨k - 1, by omega⟩
  simp only [cenotaphref02_Add.l0]
  rw [if_pos (by omega), if_pos trivial, if_pos (by omega), if_pos (by omega), rd_int, wrap_nat (by omega)]
  refine ih k (n + 1) _ (by omega) (by omega) (by simp; omega) (fun k' hk' => ?_) (by omega)
  rw [List.append_assoc, List.singleton_append, ← drop_getD e 0 n (by omega)]
  exact hr k' (by omega)
theorem radd_l0 (x : Int) (u : Int) (e : List Int) (hl : e.length < 1000000) (r : Option (Int × List Int)) (d : Nat) : ∀ (k n : Nat) (acc : List Int), e.length - n = d → n ≤ e.length → acc.length < 1000000 + n →
  (∀ k', k - d - 3 ≤ k' → cenotaphref02_Add.l1 k' (acc ++ insZ x (e.drop n)) u = r) → d + 3 < k → cenotaphref02_Add.l0 k x acc false (n : Int) u e = r := by
 induction d with
 | zero =>
  intro k n acc hd hn ha hr hk
  obtain ⟨k, rfl⟩ : ∃ m, k = m + 2 := ⟨k - 2, by omega⟩
  simp only [cenotaphref02_Add.l0]
  rw [if_neg (by omega), if_neg (by simp), if_pos (by omega)]
  simp only [cenotaphref02_Add.j2]
  have := hr k (by omega)
  rwa [List.drop_eq_nil_of_le (by omega)] at this
 | succ d ih =>
  intro k n acc hd hn ha hr hk
  obtain ⟨k, rfl⟩ : ∃ m, k = m + 1 := ⟨k - 1, by omega⟩
  have hd' := drop_getD e 0 n (by omega)
  simp only [cenotaphref02_Add.l0]
  rw [if_pos (by omega), if_neg (by simp), if_pos (by omega), rd_int, wrap_nat (by omega)]
  by_cases h : e.getD n 0 > x
  ·rw [if_pos h, if_pos (by omega), Option.bind_some, if_pos (by simp; omega)]
   refine radd_l0t x u e hl r d k (n + 1) _ (by omega) (by omega) (by simp; omega) (fun k' hk' => ?_) (by omega)
   have := hr k' (by omega)
   rw [hd', insZ, if_pos h] at this
   simpa using this
  ·rw [if_neg h, if_pos (by omega)]
   refine ih k (n + 1) _ (by omega) (by omega) (by simp; omega) (fun k' hk' => ?_) (by omega)
   have := hr k' (by omega)
   rw [hd', insZ, if_neg h] at this
   simpa using this
theorem ref_add (u : Int) (e : List Int) (n : Int) (h : OkS u e) (hl : e.length < 500000) (k : Nat) (hk : 2 * e.length + 10 < k) : cenotaphref02_Add.f k u e n = some (addS u e n) := by
 obtain ⟨k, rfl⟩ : ∃ m, k = m + 1 := ⟨k - 1, by omega⟩
 have same : cenotaphref02_Add.j0 (k + 1) n true u e = some (u, e) := by
  simp only [cenotaphref02_Add.j0, Option.bind_some, List.nil_append, List.length_nil]
  rw [if_pos trivial, if_pos (by omega)]
 unfold cenotaphref02_Add.f addS
 by_cases h1 : n < 1
 ·rw [if_pos h1, if_pos (Or.inl h1), same]
 ·rw [if_neg h1]
  by_cases h2 : n > 1048576
  ·rw [if_pos h2, if_pos (Or.inr h2), same]
  ·rw [if_neg h2, if_neg (by omega), sp_has u e n (by omega) _ (by omega), Option.bind_some]
   obtain ⟨a, b, c⟩ := addS_spec h (by omega : 1 ≤ n) (by omega : n ≤ 1048576)
   by_cases hm : memS u e n
   ·rw [decide_eq_true hm, same]
    obtain ⟨x, y⟩ := okS_unique h a fun m => ⟨fun hh => (b m).mpr (Or.inl hh), fun hh => ((b m).mp hh).elim id fun e => e ▸ hm⟩
    rw [show unionS u e 0 [n] = (u, e) from Prod.ext x.symm y.symm]
   ·rw [decide_eq_false hm]
    simp only [cenotaphref02_Add.j0]
    rw [if_neg (by simp)]
    have hn1 : n ∉ e := fun hh => hm (Or.inr hh)
    have hn2 : u < n := by
     apply Classical.byContradiction; intro hh
     exact hm (Or.inl ⟨by omega, by omega⟩)
    have hmem : ∀ x ∈ insZ n e, u < x ∧ x ≤ 1048576 := by
     intro x hx
     rcases (insZ_mem n e x).mp hx with hx | hx
     ·have := h.gap x hx; have := h.hi x hx; omega
     ·omega
    have ha := h.lo; have hb := h.up
    have hf := foldZ_spec (insZ n e) u ha hb (insZ_sorted n e h.sort hn1) fun x hx => by have := hmem x hx; omega
    have heq : foldZ u (insZ n e) = unionS u e 0 [n] := by
     obtain ⟨x, y⟩ := okS_unique hf.1 a fun m => ((hf.2.1 m).trans (by unfold memS; rw [insZ_mem]; constructor; (rintro (p | p | p); exact Or.inl (Or.inl p); exact Or.inl (Or.inr p); exact Or.inr p); (rintro ((p | p) | p); exact Or.inl p; exact Or.inr (Or.inl p); exact Or.inr (Or.inr p)))).trans (b m).symm
     exact Prod.ext x y
    refine radd_l0 n u e (by omega) _ e.length k 0 [] (by omega) (by omega) (by simp) (fun k' hk' => ?_) (by omega)
    rw [List.nil_append, List.drop_zero, ← heq]
    exact radd_l1 _ _ u k' rfl (by rw [insZ_length]; omega) ha hb (insZ_sorted n e h.sort hn1) hmem (by rw [insZ_length]; omega)
theorem ref_count (u : Int) (e : List Int) (h : OkS u e) (hl : e.length < 1000000) : cenotaphref02_Count.f u e = some (u + e.length) := by
 have ha := h.lo; have hb := h.up
 unfold cenotaphref02_Count.f
 rw [wrap_id (by omega) (by omega)]
theorem urem {v : Int} (h0 : -9223372036854775808 ≤ v) (h1 : v ≤ 9223372036854775807) (m : Int) (hm : 0 < m) (hm2 : m ≤ 1000000) : ∃ z : Int, Int.tmod (IntKind.u64.wrap v) m = z ∧ 0 ≤ z ∧ z < m := by
 have hw : 0 ≤ IntKind.u64.wrap v := by
  unfold IntKind.wrap
  have hb : IntKind.u64.bits = 64 := rfl
  have hs : IntKind.u64.signed = false := rfl
  simp only [hb, hs, Bool.false_and, Bool.false_eq_true, if_false]
  omega
 exact ⟨_, rfl, Int.tmod_nonneg m hw, Int.tmod_lt_of_pos _ hm⟩
theorem fix_loop (a : Int) (l : List Int) (hl : l.length ≤ 9223372036854775807) (hw : ∀ x ∈ l, (Lit.int .i64 x).wf = true) (d : Nat) : ∀ (n : Nat) (u : Int) (e : List Int) (k : Nat), 30 - n = d → n ≤ 30 → n ≤ l.length → OkS u e → (∀ m, memS u e m → m ≤ 60) → e.length ≤ n → d + 200 < k →
  ∃ u' e', cenotaphref02_Fix.l0 k (n : Int) a l u e = some (u', e') ∧ OkS u' e' ∧ (∀ m, memS u' e' m → m ≤ 60) ∧ e'.length ≤ 30 := by
 induction d with
 | zero =>
  intro n u e k hd hn hnl h hm hel hk
  obtain ⟨k, rfl⟩ : ∃ m, k = m + 1 := ⟨k - 1, by omega⟩
  refine ⟨u, e, ?_, h, hm, by omega⟩
  simp only [cenotaphref02_Fix.l0]
  by_cases h1 : (n : Int) < (l.length : Int)
  ·rw [if_pos h1, if_neg (by omega)]
  ·rw [if_neg h1]
 | succ d ih =>
  intro n u e k hd hn hnl h hm hel hk
  obtain ⟨k, rfl⟩ : ∃ m, k = m + 1 := ⟨k - 1, by omega⟩
  simp only [cenotaphref02_Fix.l0]
  by_cases h1 : (n : Int) < (l.length : Int)
  ·obtain ⟨w0, w1⟩ := wf_int (hw _ (getD_memZ (show n < l.length by omega)))
   obtain ⟨z, ez, z0, z1⟩ := urem w0 w1 60 (by omega) (by omega)
   rw [if_pos h1, if_pos (by omega), if_pos (by omega), rd_int, ez, wrap_id (i := z) (by omega) (by omega), wrap_id (i := 1 + z) (by omega) (by omega), ref_add u e _ h (by omega) k (by omega), Option.bind_some, wrap_nat (by omega)]
   obtain ⟨x, y, c⟩ := addS_ok h (1 + z)
   exact ih (n + 1) _ _ k (by omega) (by omega) (by omega) x (fun m hmm => ((y m).mp hmm).elim (hm m) (fun q => by omega)) (by omega) (by omega)
  ·rw [if_neg h1]
   exact ⟨u, e, rfl, h, hm, by omega⟩
theorem sp_fix (a : Int) (l : List Int) (ha : (Lit.int .i64 a).wf = true) (hl : l.length ≤ 9223372036854775807) (hw : ∀ x ∈ l, (Lit.int .i64 x).wf = true) (k : Nat) (hk : 500 < k) :
  ∃ u e, cenotaphref02_Fix.f k a l = some (u, e) ∧ OkS u e ∧ (∀ m, memS u e m → m ≤ 60) ∧ e.length ≤ 30 := by
 obtain ⟨w0, w1⟩ := wf_int ha
 obtain ⟨z, ez, z0, z1⟩ := urem w0 w1 40 (by omega) (by omega)
 unfold cenotaphref02_Fix.f
 rw [ez, wrap_id (by omega) (by omega)]
 refine fix_loop a l hl hw 30 0 z [] k (by omega) (by omega) (by omega) (OkS.nil z0 (by omega)) (fun m hm => ?_) (by simp) (by omega)
 rcases hm with hm | hm
 ·omega
 ·simp at hm
theorem sp_to (u : Int) (l : List Int) (hl : l.length < 1000000) : cenotaphlaw02_To.f u l = some (u, l) := by
 simp only [cenotaphlaw02_To.f, Option.bind_some, List.length_nil, List.nil_append]
 rw [if_pos (by omega)]
abbrev SN := S91
def tN : RoN SN := ⟨fun x => x.f0, fun x => x.f1.f0, fun x => x.f1.f1, fun a u e => ⟨a, ⟨u, e⟩⟩, fun _ _ _ => rfl, fun _ _ _ => rfl, fun _ _ _ => rfl, fun _ => rfl⟩
theorem rdN (l : List SN) (n : Nat) : rd_T91 l (n : Int) = l.getD n z91 := rfl
theorem right_small {a : ByteArray} (h : rightB a = true) : a.size ≤ 1000 := by have := kn_size h; omega
theorem ref_drop_loop4 (l : List SN) (a : ByteArray) (hl : l.length < 1000000) (d : Nat) : ∀ (k n : Nat) (acc : List SN), l.length - n = d → n ≤ l.length → acc.length + d < 1000000 → d < k →
  cenotaphref04_Drop.l0 k l a acc (n : Int) = some (acc ++ dropM tN.id a (l.drop n)) := by
 induction d with
 | zero =>
  intro k n acc hd hn ha hk
  obtain ⟨k, rfl⟩ : ∃ m, k = m + 1 := ⟨k - 1, by omega⟩
  simp only [cenotaphref04_Drop.l0]
  rw [if_neg (by omega), List.drop_eq_nil_of_le (by omega)]; simp [dropM]
 | succ d ih =>
  intro k n acc hd hn ha hk
  obtain ⟨k, rfl⟩ : ∃ m, k = m + 1 := ⟨k - 1, by omega⟩
  simp only [cenotaphref04_Drop.l0]
  rw [if_pos (by omega), if_pos (by omega), rdN, drop_getD l z91 n (by omega), wrap_nat (by omega)]
  generalize l.getD n z91 = x
  by_cases h : x.f0 = a
  ·rw [if_pos (kn_toL.mpr h), ih k (n + 1) acc (by omega) (by omega) (by omega) (by omega)]
   unfold dropM
   rw [List.filter_cons_of_neg (by rw [decide_eq_true_eq]; exact fun e => e h)]
  ·rw [if_neg (fun e => h (kn_toL.mp e)), if_pos (by omega), ih k (n + 1) _ (by omega) (by omega) (by simp; omega) (by omega)]
   unfold dropM
   rw [List.filter_cons_of_pos (by rw [decide_eq_true_eq]; exact h), List.append_assoc]; rfl
theorem ref_drop4 (l : List SN) (a : ByteArray) (hl : l.length < 100000) (k : Nat) (hk : l.length < k) : cenotaphref04_Drop.f k l a = some (dropM tN.id a l) := by
 have := ref_drop_loop4 l a (by omega) l.length k 0 [] (by omega) (by omega) (by simp; omega) hk
 simpa [cenotaphref04_Drop.f] using this
def gtN (u v : SN) : Bool := decide (ltB (tN.id v) (tN.id u))
theorem sinkO_is (v : SN) (hv : v.f0.size ≤ 1000) (k : Nat) (hk : 2100 < k) : ∀ (p q : List SN), (∀ x ∈ p, x.f0.size ≤ 1000) → sinkO k v p q = some (sinkR gtN v p q)
 | [], q, hs => rfl
 | u :: p, q, hs => by
  have hcc : (Lib.compareBytes u.f0.data.toList v.f0.data.toList > 0) ↔ gtN u v = true := by
   unfold gtN; rw [decide_eq_true_eq]; exact gtB
  have hu := hs u (by simp)
  unfold sinkO sinkR
  rw [ref_compare _ _ k (by omega) (by omega), Option.bind_some]
  by_cases hc : gtN u v = true
  ·rw [if_pos (hcc.mpr hc), if_pos hc]
   exact sinkO_is v hv k hk p (u :: q) (fun x hx => hs x (by simp [hx]))
  ·rw [if_neg (fun h => hc (hcc.mp h)), if_neg hc]
theorem small4 {m : List SN} (h : OkN tN m) : ∀ x ∈ m, x.f0.size ≤ 1000 := fun x hx => right_small (h.right x hx)
def RowIn (x : SN) : Prop := (Lit.int .i64 x.f1.f0).wf = true ∧ x.f1.f1.length ≤ 9223372036854775807 ∧ ∀ y ∈ x.f1.f1, (Lit.int .i64 y).wf = true
theorem ref_set4 {m : List SN} (h : OkN tN m) (hml : m.length < 1000) {q : Nat} (hq : LimN tN q m) (hq2 : q < 1000) (a : ByteArray) (ha : rightB a = true) {u : Int} {e : List Int} (hw : OkS u e) (hp : e.length ≤ q) {c : Int} (hlo : LowN tN c m) (hc : ∀ n, memS u e n → n ≤ c) (k : Nat) (hk : 5000 < k) :
  ∃ r, cenotaphref04_put.f k m a u e = some r ∧ OkN tN r ∧ r.length ≤ m.length + 1 ∧ LimN tN q r ∧ LowN tN c r := by
 obtain ⟨r, er, i, l⟩ : ∃ r, cenotaphref04_put.f k m a u e = some r ∧ OkN tN r ∧ r.length ≤ m.length + 1 ∧ LimN tN q r ∧ ∀ b n, memN tN r b n → memN tN m b n ∨ memS u e n := by
  have hdl := dropM_length (key := tN.id) a m
  have hs := okS_some hw
  unfold cenotaphref04_put.f
  rw [ref_drop4 m a (by omega) k (by omega), Option.bind_some, ref_count u e hw (by omega), Option.bind_some]
  by_cases hc : u + (e.length : Int) < 1
  ·rw [if_pos hc]
   exact ⟨_, rfl, h.drop a, by omega, LimN.sub hq (fun x hx => ((mem_dropM _ _ _).mp hx).1), fun b n hn => Or.inl ((memN_drop _ _ _ _).mp hn).2⟩
  ·rw [if_neg hc, if_pos (by omega), sinkO_is _ (right_small ha) k (by omega) _ _ (fun x hx => small4 (h.drop a) x (List.mem_reverse.mp hx))]
   refine ⟨_, rfl, h.put ha hw (hs.mpr (by omega)), putM_length _ _, hq.put a u hp, fun b n hn => ?_⟩
   have hn2 : memN tN (putM ltB tN.id (tN.of a u e) m) b n := hn
   unfold memN at hn2
   rw [ofN_put h.ks] at hn2
   by_cases hb : b = a
   ·rw [if_pos hb] at hn2; exact Or.inr hn2
   ·rw [if_neg hb] at hn2; exact Or.inl hn2
 exact ⟨r, er, i, l.1, l.2.1, fun b n hn => (l.2.2 b n hn).elim (hlo b n) (hc n)⟩
theorem fix_loop4 (l : List SN) (hl : ∀ x ∈ l, RowIn x) (d : Nat) : ∀ (n k : Nat) (out : List SN), 10 - n = d → n ≤ 10 → n ≤ l.length → OkN tN out → out.length ≤ n → LimN tN 30 out → LowN tN 60 out → 2 * d + 6000 < k →
  ∃ r, cenotaphref04_Fix.l0 k l out (n : Int) = some r ∧ OkN tN r ∧ r.length ≤ 10 ∧ LimN tN 30 r ∧ LowN tN 60 r := by
 induction d with
 | zero =>
  intro n k out hd hn hnl h hlen hL hW hk
  obtain ⟨k, rfl⟩ : ∃ m, k = m + 2 := ⟨k - 2, by omega⟩
  refine ⟨out, ?_, h, by omega, hL, hW⟩
  simp only [cenotaphref04_Fix.l0]
  have hdec : decide ((n : Int) < 10) = false := decide_eq_false (by omega)
  by_cases h1 : (n : Int) < (l.length : Int)
  ·rw [if_pos h1, hdec]; simp only [cenotaphref04_Fix.j1]; rw [if_neg (by simp)]
  ·rw [if_neg h1]; simp only [cenotaphref04_Fix.j1]; rw [if_neg (by simp)]
 | succ d ih =>
  intro n k out hd hn hnl h hlen hL hW hk
  obtain ⟨k, rfl⟩ : ∃ m, k = m + 2 := ⟨k - 2, by omega⟩
  simp only [cenotaphref04_Fix.l0]
  have hdec : decide ((n : Int) < 10) = true := decide_eq_true (by omega)
  by_cases h1 : (n : Int) < (l.length : Int)
  ·rw [if_pos h1, hdec]
   simp only [cenotaphref04_Fix.j1]
   have hx := hl _ (getD_mem (show n < l.length by omega) z91)
   rw [rdN]
   generalize l.getD n z91 = x at hx ⊢
   obtain ⟨u, e, ef, ok, hm, he⟩ := sp_fix x.f1.f0 x.f1.f1 hx.1 hx.2.1 hx.2.2 k (by omega)
   obtain ⟨r, er, r1, r2, r3, r4⟩ := ref_set4 h (by omega) hL (by omega) (fixB x.f0) (fixB_right x.f0) ok he hW hm k (by omega)
   rw [if_pos trivial, if_pos (by omega), if_pos h1, ref_fix _ k (by omega), Option.bind_some, ef, Option.bind_some, er, Option.bind_some, wrap_nat (by omega)]
   exact ih (n + 1) k r (by omega) (by omega) (by omega) r1 (by omega) r3 r4 (by omega)
  ·rw [if_neg h1]
   simp only [cenotaphref04_Fix.j1]
   rw [if_neg (by simp)]
   exact ⟨out, rfl, h, by omega, hL, hW⟩
theorem ref_fix4 (l : List SN) (hl : ∀ x ∈ l, RowIn x) (k : Nat) (hk : 7000 < k) : ∃ r, cenotaphref04_Fix.f k l = some r ∧ OkN tN r ∧ r.length ≤ 10 ∧ LimN tN 30 r ∧ LowN tN 60 r :=
 fix_loop4 l hl 10 0 k [] rfl (by omega) (by omega) OkN.nil (by simp) LimN.nil (fun a n h => absurd h (memN_nil a n)) (by omega)
theorem to_loop4 (l : List SN) (hl : l.length < 1000000) {q : Nat} (hq : LimN tN q l) (hq2 : q < 100000) (d : Nat) : ∀ (k n : Nat) (acc : List SK), l.length - n = d → n ≤ l.length → acc.length + d < 1000000 → d < k → cenotaphlaw04_To.l0 k l acc (n : Int) = some (acc ++ convN tN tK (l.drop n)) := by
 induction d with
 | zero =>
  intro k n acc hd hn ha hk
  obtain ⟨k, rfl⟩ : ∃ m, k = m + 1 := ⟨k - 1, by omega⟩
  simp only [cenotaphlaw04_To.l0]
  rw [if_neg (by omega), List.drop_eq_nil_of_le (by omega)]; simp [convN]
 | succ d ih =>
  intro k n acc hd hn ha hk
  obtain ⟨k, rfl⟩ : ∃ m, k = m + 1 := ⟨k - 1, by omega⟩
  simp only [cenotaphlaw04_To.l0]
  have hx : (l.getD n z91).f1.f1.length ≤ q := hq (l.getD n z91) (getD_mem (by omega) _)
  rw [if_pos (by omega), if_pos (by omega), rdN, sp_to _ _ (by omega), Option.bind_some, if_pos (by omega), wrap_nat (by omega), ih k (n + 1) _ (by omega) (by omega) (by simp; omega) (by omega), drop_getD l z91 n (by omega), List.append_assoc]
  rfl
theorem kn_to (l : List SN) (hl : l.length < 100000) {q : Nat} (hq : LimN tN q l) (hq2 : q < 100000) (k : Nat) (hk : l.length < k) : cenotaphlaw04_To.f k l = some (convN tN tK l) := by
 have := to_loop4 l (by omega) hq hq2 l.length k 0 [] (by omega) (by omega) (by simp; omega) hk
 simpa [cenotaphlaw04_To.f] using this
theorem ref_of_loop4 (l : List SN) (a : ByteArray) (hl : l.length < 1000000) (d : Nat) : ∀ (k n : Nat), l.length - n = d → n ≤ l.length → d < k →
  cenotaphref04_Of.l0 k l a (n : Int) = some (ofN tN (l.drop n) a) := by
 induction d with
 | zero =>
  intro k n hd hn hk
  obtain ⟨k, rfl⟩ : ∃ m, k = m + 1 := ⟨k - 1, by omega⟩
  simp only [cenotaphref04_Of.l0]
  rw [if_neg (by omega), List.drop_eq_nil_of_le (by omega), ofN_nil]
 | succ d ih =>
  intro k n hd hn hk
  obtain ⟨k, rfl⟩ : ∃ m, k = m + 1 := ⟨k - 1, by omega⟩
  simp only [cenotaphref04_Of.l0]
  rw [if_pos (by omega), if_pos (by omega), rdN, drop_getD l z91 n (by omega), ofN_cons]
  generalize l.getD n z91 = x
  by_cases h : x.f0 = a
  ·rw [if_pos (kn_toL.mpr h), if_pos (show tN.id x = a from h)]; rfl
  ·rw [if_neg (fun e => h (kn_toL.mp e)), if_neg (show ¬ tN.id x = a from h), wrap_nat (by omega), ih k (n + 1) (by omega) (by omega) (by omega)]
theorem ref_of4 (l : List SN) (a : ByteArray) (hl : l.length < 1000000) (k : Nat) (hk : l.length < k) : cenotaphref04_Of.f k l a = some (ofN tN l a) := ref_of_loop4 l a hl l.length k 0 (by omega) (by omega) hk
theorem ref_has4 {m : List SN} (h : OkN tN m) (hml : m.length < 1000) {q : Nat} (hq : LimN tN q m) (hq2 : q < 900) (a : ByteArray) (n : Int) (k : Nat) (hk : 6000 < k) : cenotaphref04_Has.f k m a n = some (decide (memN tN m a n)) := by
 have hol := hq.of a
 unfold cenotaphref04_Has.f
 rw [ref_of4 m a (by omega) k (by omega), Option.bind_some, sp_has _ _ n (by omega) k (by omega)]
 rfl
def knA (m : List SN) (x : RI) : Bool := decide (memN tN m x.f1.f0 x.f1.f1)
theorem ref_unk_loop {m : List SN} (h : OkN tN m) (hml : m.length < 1000) {q : Nat} (hq : LimN tN q m) (hq2 : q < 900) (b : List RI) (hb : b.length ≤ 1000) : ∀ (d n k : Nat) (o : List RI), b.length - n = d → n ≤ b.length → o.length ≤ n → 6001 + d < k →
  cenotaphref08_Unknown.l0 k m b o n = some (o ++ (b.drop n).filter fun x => !(knA m x)) := by
 intro d
 induction d with
 | zero =>
  intro n k o hd hn ho hk
  obtain ⟨k, rfl⟩ : ∃ m, k = m + 1 := ⟨k - 1, by omega⟩
  rw [cenotaphref08_Unknown.l0, if_neg (by omega), List.drop_eq_nil_of_le (by omega)]; simp
 | succ d ih =>
  intro n k o hd hn ho hk
  obtain ⟨k, rfl⟩ : ∃ m, k = m + 1 := ⟨k - 1, by omega⟩
  have hlt : n < b.length := by omega
  have hg : b.getD n z28 = b[n] := by simp [List.getD, hlt]
  rw [cenotaphref08_Unknown.l0, if_pos (by omega), if_pos (by omega), rdR, hg, ref_has4 h hml hq hq2 _ _ k (by omega), Option.bind_some, drop_getD b z28 n hlt, hg, wrap_nat (by omega)]
  by_cases hm : memN tN m b[n].f1.f0 b[n].f1.f1
  ·rw [decide_eq_true hm, if_pos rfl, ih (n + 1) k o (by omega) (by omega) (by omega) (by omega), List.filter_cons_of_neg (by simp [knA, hm])]
  ·rw [decide_eq_false hm, if_neg (by decide), if_pos (by omega), ih (n + 1) k _ (by omega) (by omega) (by rw [List.length_append, List.length_singleton]; omega) (by omega), List.filter_cons_of_pos (by simp [knA, hm]), List.append_assoc]
   rfl
theorem StoreAges : cenotaphlaw08_StoreAges.Pure := by
 intro l0 l1 hl _ hl1 hx1
 refine ⟨20000, ?_⟩
 obtain ⟨s, ⟨hk, ho, hlen⟩, es⟩ := fix_st l0 hl
 obtain ⟨m, em, om, lm, qm, -⟩ := ref_fix4 l1 (fun x hx => ⟨(hx1 x hx).2.1, (hx1 x hx).2.2⟩) 20000 (by omega)
 have hn : ∀ x ∈ isort gtA s, NearS x := fun x hx => (ho x (isort_mem hx)).near
 have hil := isort_length s
 have eto : cenotaphlaw08_To.f 20000 s = some (s.map toI) := to_ok s (by omega) 20000 (by omega)
 have eage := own_age s (by omega)
 have efr := from_ok (isort gtA s) (by omega) hn 20000 (by omega)
 have era := ref_age s (by omega) (fun y hy => (ho y hy).i1) 20000 (by omega)
 have esa := ref_same (isort gtA s) (isort gtA s) (by omega) 20000 (by omega)
 have etk := kn_to m (by omega) qm (by omega) 20000 (by omega)
 have hfl : ((isort gtA s).filter fun x => !(knA m x)).length ≤ (isort gtA s).length := List.length_filter_le _ _
 have hhas : ∀ x : RI, know_Has.f 20000 (convN tN tK m) (toI x).f1.f0 (toI x).f1.f1 = some (knA m x) := by
  intro x
  rw [kn_has (convN_ok om) qm.conv (by omega) (by rw [convN_length]; omega) _ _ 20000 (by omega)]
  congr 1
  unfold knA
  rw [decide_eq_decide]
  exact memN_conv m x.f1.f0 x.f1.f1
 have eun : store_Unknown.f 20000 (s.map toI) (convN tN tK m) = some (((isort gtA s).filter fun x => !(knA m x)).map toI) := by
  rw [store_Unknown.f, eage, Option.bind_some, if_pos (by
   rw [List.all_eq_true]
   intro y hy
   obtain ⟨x, _, rfl⟩ := List.mem_map.mp hy
   rw [hhas]; rfl), List.filter_map]
  congr 2
  refine List.filter_congr fun x _ => ?_
  show (!(kns 20000 (convN tN tK m) (toI x))) = !(knA m x)
  rw [kns, hhas]; rfl
 have efu := from_ok ((isort gtA s).filter fun x => !(knA m x)) (by omega) (fun x hx => hn x (List.mem_filter.mp hx).1) 20000 (by omega)
 have eru : cenotaphref08_Unknown.f 20000 s m = some ((isort gtA s).filter fun x => !(knA m x)) := by
  rw [cenotaphref08_Unknown.f, era, Option.bind_some]
  have := ref_unk_loop om (by omega) qm (by omega) (isort gtA s) (by omega) (isort gtA s).length 0 20000 [] rfl (by omega) (by simp) (by omega)
  rw [List.drop_zero, List.nil_append] at this
  exact this
 have esu := ref_same ((isort gtA s).filter fun x => !(knA m x)) ((isort gtA s).filter fun x => !(knA m x)) (by omega) 20000 (by omega)
 rw [eqS_self] at esa esu
 have ht := told_ok 20000 (by omega)
 simp only [cenotaphlaw08_StoreAges.f, es 20000 (by omega), em, ht, eto, eage, efr, era, esa, etk, eun, efu, eru, esu, Option.bind_some, if_true]
end Go.Proofs.Ytgdkgobplinelaa.Pure
