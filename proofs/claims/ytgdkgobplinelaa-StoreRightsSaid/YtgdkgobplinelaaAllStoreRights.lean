/- StoreRights: of all lists it is told whether they are a Store, and whether two are the same. No condition beyond the statement's own. -/
import Derived.Test.YtgdkgobplinelaaTl
import Derived.Test.YtgdkgobplinelaaOrdB
import Derived.Test.YtgdkgobplinelaaP6
import Derived.Lib.Strings
import Derived.Test.YtgdkgobplinelaaOrdI
import Derived.Test.YtgdkgobplinelaaP10
import Derived.Test.YtgdkgobplinelaaP12
import Derived.Test.YtgdkgobplinelaaP7
import Derived.Test.YtgdkgobplinelaaP8
import Derived.Test.YtgdkgobplinelaaP11
import Derived.Test.YtgdkgobplinelaaP9
import Derived.Test.YtgdkgobplinelaaP19
import Derived.Test.YtgdkgobplinelaaP14
import Derived.Test.YtgdkgobplinelaaP0
import Derived.Test.YtgdkgobplinelaaP20
import Derived.Test.YtgdkgobplinelaaGoalStoreRights
/- Names' bytes, read by number. -/
namespace Go.Proofs.Ytgdkgobplinelaa.Pure
open Go.RowKit Go.Proofs.Ytgdkgobplinelaa Go.Proofs.Ytgdkgobplinelaa.P Go.Proofs.YtgdkgobplinelaaW.PrintWords Go.Proofs.YtgdkgobplinelaaW.PrintLast
set_option linter.unusedVariables false
set_option linter.unusedSimpArgs false
theorem bt_get (a : ByteArray) (n : Nat) (h : n < a.size) : bt a (n : Int) = ((a.data.toList.getD n 0).toNat : Int) := by
 unfold bt
 have e : ((n : Int)).toNat = n := Int.toNat_natCast n
 simp only [e, dif_pos h]
 have h2 : n < a.data.toList.length := by simpa using h
 have : a.data.toList.getD n 0 = a.data.toList[n]'h2 := by simp [List.getD, List.getElem?_eq_getElem h2]
 rw [this]; simp; rfl
theorem size_list (a : ByteArray) : a.size = a.data.toList.length := by simp
theorem drop_all (l : List UInt8) (n : Nat) (h : n < l.length) (p : UInt8 → Bool) : (l.drop n).all p = (p (l.getD n 0) && (l.drop (n + 1)).all p) := by
 rw [List.drop_eq_getElem_cons h, List.all_cons]
 simp [List.getD, List.getElem?_eq_getElem h]
theorem drop_cons (l : List UInt8) (n : Nat) (h : n < l.length) : l.drop n = l.getD n 0 :: l.drop (n + 1) := by
 rw [List.drop_eq_getElem_cons h]; simp [List.getD, List.getElem?_eq_getElem h]
theorem cmp_cons (x y : UInt8) (a b : List UInt8) : Lib.compareBytes (x :: a) (y :: b) = if x < y then -1 else if y < x then 1 else Lib.compareBytes a b := rfl
theorem ref_compare_loop (a b : ByteArray) (ha : a.size ≤ 9223372036854775807) (d : Nat) : ∀ (k n : Nat), a.size - n = d → n ≤ a.size → n ≤ b.size → 2 * d + 1 < k →
  cenotaphref01_Compare.l0 k a b (n : Int) = some (Lib.compareBytes (a.data.toList.drop n) (b.data.toList.drop n)) := by
 have sa := size_list a; have sb := size_list b
 induction d with
 | zero =>
  intro k n hd hn hb hk
  obtain ⟨k, rfl⟩ : ∃ m, k = m + 2 := ⟨k - 2, by omega⟩
  have e1 : a.data.toList.drop n = [] := List.drop_eq_nil_of_le (by omega)
  simp only [cenotaphref01_Compare.l0]; rw [if_neg (by omega)]
  simp only [cenotaphref01_Compare.j1]; rw [if_neg (by simp), e1]
  by_cases h : n < b.size
  ·rw [if_pos (by omega), drop_cons _ _ (by omega)]; rfl
  ·rw [if_neg (by omega), if_neg (by omega), List.drop_eq_nil_of_le (by omega)]; rfl
 | succ d ih =>
  intro k n hd hn hb hk
  obtain ⟨k, rfl⟩ : ∃ m, k = m + 2 := ⟨k - 2, by omega⟩
  have hlt : n < a.size := by omega
  simp only [cenotaphref01_Compare.l0]; rw [if_pos (by omega)]
  simp only [cenotaphref01_Compare.j1]
  rw [drop_cons a.data.toList n (by omega)]
  by_cases h : n < b.size
  ·have hw := ih k (n + 1) (by omega) (by omega) (by omega) (by omega)
   simp only [Int.natCast_add, Int.cast_ofNat_Int] at hw
   rw [decide_eq_true (by omega), if_pos rfl, if_pos (by omega), if_pos (by omega), if_pos (by omega), bt_get a n hlt, bt_get b n h, drop_cons b.data.toList n (by omega), wrap_id (by omega) (by omega), hw]
   generalize a.data.toList.getD n 0 = x
   generalize b.data.toList.getD n 0 = y
   rw [cmp_cons]
   by_cases h1 : x < y
   ·have : (x.toNat : Int) < y.toNat := by have := UInt8.lt_iff_toNat_lt.mp h1; omega
    rw [if_pos this, if_pos h1]
   ·have n1 : ¬ (x.toNat : Int) < y.toNat := by intro h; exact h1 (UInt8.lt_iff_toNat_lt.mpr (by omega))
    rw [if_neg n1, if_neg h1]
    by_cases h2 : y < x
    ·have : (x.toNat : Int) > y.toNat := by have := UInt8.lt_iff_toNat_lt.mp h2; omega
     rw [if_pos this, if_pos h2]
    ·have n2 : ¬ (x.toNat : Int) > y.toNat := by intro h; exact h2 (UInt8.lt_iff_toNat_lt.mpr (by omega))
     rw [if_neg n2, if_neg h2]
  ·rw [decide_eq_false (by omega), if_neg (by simp), if_neg (by omega), if_pos (by omega), List.drop_eq_nil_of_le (by omega : b.data.toList.length ≤ n)]; rfl
theorem ref_compare (a b : ByteArray) (k : Nat) (ha : a.size ≤ 9223372036854775807) (hk : 2 * a.size + 2 ≤ k) : cenotaphref01_Compare.f k a b = some (Lib.compareBytes a.data.toList b.data.toList) := by
 have := ref_compare_loop a b ha a.size k 0 (by omega) (by omega) (by omega) (by omega)
 unfold cenotaphref01_Compare.f
 simpa using this
def fixD (c : UInt8) : UInt8 := 49 + c % 9
def fixL (l : List UInt8) : List UInt8 := 48 :: (l.take 5).map fixD
def fixB (a : ByteArray) : ByteArray := ⟨(fixL a.data.toList).toArray⟩
theorem fixD_ok (c : UInt8) : okDigit (fixD c) = true := by
 have h : c.toNat % 9 < 9 := Nat.mod_lt _ (by omega)
 simp [okDigit, fixD, UInt8.le_iff_toNat_le, UInt8.toNat_add, UInt8.toNat_mod]; omega
theorem fixL_ok (l : List UInt8) : idL (fixL l) = true := by
 unfold fixL idL
 have h : (l.take 5).length ≤ 5 := List.length_take_le _ _
 simp only [beq_self_eq_true, Bool.true_and, List.length_map, decide_eq_true h]
 rw [List.all_eq_true]
 intro x hx
 obtain ⟨c, _, rfl⟩ := List.mem_map.mp hx
 exact fixD_ok c
theorem digit_at (c : UInt8) : ((⟨#[49, 50, 51, 52, 53, 54, 55, 56, 57]⟩ : ByteArray).extract (c.toNat % 9) (c.toNat % 9 + 1)) = ⟨#[fixD c]⟩ := by
 have h : c.toNat % 9 < 9 := Nat.mod_lt _ (by omega)
 have e : fixD c = UInt8.ofNat (49 + c.toNat % 9) := by
  apply UInt8.toNat_inj.mp
  simp [fixD, UInt8.toNat_add, UInt8.toNat_mod]
 rw [e]
 generalize c.toNat % 9 = j at h ⊢
 match j, h with
 | 0, _ => rfl
 | 1, _ => rfl
 | 2, _ => rfl
 | 3, _ => rfl
 | 4, _ => rfl
 | 5, _ => rfl
 | 6, _ => rfl
 | 7, _ => rfl
 | 8, _ => rfl
theorem bytes_snoc (l : List UInt8) (c : UInt8) : (⟨l.toArray⟩ : ByteArray) ++ (⟨#[c]⟩ : ByteArray) = ⟨(l ++ [c]).toArray⟩ := by
 apply ByteArray.ext; simp
theorem ref_fix_loop (a : ByteArray) (d : Nat) : ∀ (k n : Nat) (l : List UInt8), 5 - n = d → n ≤ a.size → n ≤ 5 → d < k → l.length = n + 1 →
  cenotaphref01_Fix.l0 k a ⟨l.toArray⟩ (n : Int) = some ⟨(l ++ ((a.data.toList.drop n).take d).map fixD).toArray⟩ := by
 have sa := size_list a
 induction d with
 | zero =>
  intro k n l hd hn h5 hk hl
  obtain ⟨k, rfl⟩ : ∃ m, k = m + 1 := ⟨k - 1, by omega⟩
  simp only [cenotaphref01_Fix.l0]
  by_cases h : n < a.size
  ·rw [if_pos (by omega), if_neg (by omega)]; simp
  ·rw [if_neg (by omega)]; simp
 | succ d ih =>
  intro k n l hd hn h5 hk hl
  obtain ⟨k, rfl⟩ : ∃ m, k = m + 1 := ⟨k - 1, by omega⟩
  simp only [cenotaphref01_Fix.l0]
  by_cases h : n < a.size
  ·rw [if_pos (by omega), if_pos (by omega), if_pos (by omega), bt_get a n h]
   have e0 : a.data.toList.drop n = a.data.toList.getD n 0 :: a.data.toList.drop (n + 1) := by
    rw [List.drop_eq_getElem_cons (by omega)]; simp [List.getD, List.getElem?_eq_getElem (show n < a.data.toList.length by omega)]
   rw [e0]
   generalize a.data.toList.getD n 0 = c
   have hm : Int.tmod (c.toNat : Int) 9 = ((c.toNat % 9 : Nat) : Int) := by
    rw [Int.tmod_eq_emod_of_nonneg (by omega)]; rfl
   have h9 : c.toNat % 9 < 9 := Nat.mod_lt _ (by omega)
   have hm2 : (((c.toNat % 9 : Nat) : Int) + 1) % 256 = ((c.toNat % 9 + 1 : Nat) : Int) := by omega
   have hsz : (⟨l.toArray⟩ : ByteArray).size + (⟨#[fixD c]⟩ : ByteArray).size ≤ 9223372036854775807 := by
    show l.toArray.size + 1 ≤ _
    rw [List.size_toArray]; omega
   rw [hm, hm2, if_pos (by omega), if_pos (by omega), if_pos (by omega), Int.toNat_natCast, Int.toNat_natCast, digit_at, if_pos hsz, bytes_snoc, wrap_id (by omega) (by omega)]
   have := ih k (n + 1) (l ++ [fixD c]) (by omega) (by omega) (by omega) (by omega) (by simp; omega)
   simp only [Int.natCast_add, Int.cast_ofNat_Int] at this
   rw [this]; simp
  ·rw [if_neg (by omega), List.drop_eq_nil_of_le (by omega)]; simp
theorem ref_fix (a : ByteArray) (k : Nat) (hk : 6 ≤ k) : cenotaphref01_Fix.f k a = some (fixB a) := by
 have := ref_fix_loop a 5 k 0 [48] (by omega) (by omega) (by omega) (by omega) rfl
 unfold cenotaphref01_Fix.f
 simpa [fixB, fixL] using this
theorem fixB_right (a : ByteArray) : rightB (fixB a) = true := by
 rw [rightB_eq]; exact fixL_ok _
abbrev RI : Type := S28
abbrev PI : Type := S41
/-- An item that may be. -/
structure OkS (x : RI) : Prop where
 k0 : 0 ≤ x.f0
 k1 : x.f0 ≤ 31
 i0 : rightB x.f1.f0 = true
 i1 : x.f1.f0.size ≤ 6
 q0 : 1 ≤ x.f1.f1
 q1 : x.f1.f1 ≤ 1048576
 s0 : 1 ≤ x.f1.f2
 s1 : x.f1.f2 ≤ 1048576
 x0 : -1000 ≤ x.f3.f0
 x1 : x.f3.f0 ≤ 1000
 y0 : -1000 ≤ x.f3.f1
 y1 : x.f3.f1 ≤ 1000
 t1 : x.f4.size ≤ 16
 d1 : x.f2 = true → x.f5 = false ∧ x.f3.f0 = 0 ∧ x.f3.f1 = 0
 h1 : x.f5 = false → x.f4 = ⟨#[]⟩
theorem u64_mod (x m : Int) (hm : 0 < m) : 0 ≤ Int.tmod (IntKind.u64.wrap x) m ∧ Int.tmod (IntKind.u64.wrap x) m < m := by
 have h0 : 0 ≤ IntKind.u64.wrap x := by
  simp only [IntKind.wrap, IntKind.signed, IntKind.bits]
  simp
  omega
 rw [Int.tmod_eq_emod_of_nonneg h0]
 exact ⟨Int.emod_nonneg _ (by omega), Int.emod_lt_of_pos _ hm⟩
theorem fixB_size (a : ByteArray) : (fixB a).size ≤ 6 := by
 have h : (fixB a).size = (fixL a.data.toList).length := by simp [fixB, ByteArray.size]
 rw [h, fixL, List.length_cons, List.length_map, List.length_take]
 omega
/-- What Fix makes of any item. -/
theorem fix_ok (a0_0 : Int) (a0_1 : ByteArray) (a0_2 a0_3 : Int) (a0_4 : Bool) (a0_5 a0_6 : Int) (a0_7 : ByteArray) (a0_8 : Bool) : ∃ x : RI, OkS x ∧ ∀ k, 6 ≤ k → cenotaphref07_Fix.f k a0_0 a0_1 a0_2 a0_3 a0_4 a0_5 a0_6 a0_7 a0_8 = some (x.f0, x.f1.f0, x.f1.f1, x.f1.f2, x.f2, x.f3.f0, x.f3.f1, x.f4, x.f5) := by
 refine ⟨⟨_, ⟨_, _, _⟩, _, ⟨_, _⟩, _, _⟩, ?_, fun k hk => by
  rw [cenotaphref07_Fix.f, ref_fix a0_1 k hk, Option.bind_some, cenotaphref05_Spot.f, Option.bind_some]⟩
 have m1 := u64_mod a0_0 32 (by omega)
 have m2 := u64_mod a0_2 60 (by omega)
 have m3 := u64_mod a0_3 60 (by omega)
 have m4 := u64_mod a0_5 2001 (by omega)
 have m5 := u64_mod a0_6 2001 (by omega)
 generalize Int.tmod (IntKind.u64.wrap a0_0) 32 = n1 at m1 ⊢
 generalize Int.tmod (IntKind.u64.wrap a0_2) 60 = n2 at m2 ⊢
 generalize Int.tmod (IntKind.u64.wrap a0_3) 60 = n3 at m3 ⊢
 generalize Int.tmod (IntKind.u64.wrap a0_5) 2001 = n4 at m4 ⊢
 generalize Int.tmod (IntKind.u64.wrap a0_6) 2001 = n5 at m5 ⊢
 have w1 : wrap64 n1 = n1 := wrap_id (by omega) (by omega)
 have w2 : wrap64 (1 + wrap64 n2) = 1 + n2 := by rw [wrap_id (i := n2) (by omega) (by omega), wrap_id (by omega) (by omega)]
 have w3 : wrap64 (1 + wrap64 n3) = 1 + n3 := by rw [wrap_id (i := n3) (by omega) (by omega), wrap_id (by omega) (by omega)]
 have w4 : wrap64 (wrap64 n4 - 1000) = n4 - 1000 := by rw [wrap_id (i := n4) (by omega) (by omega), wrap_id (by omega) (by omega)]
 have w5 : wrap64 (wrap64 n5 - 1000) = n5 - 1000 := by rw [wrap_id (i := n5) (by omega) (by omega), wrap_id (by omega) (by omega)]
 have hm : (a0_7.extract 0 ((mn (a0_7.size : Int) 16) : Int).toNat).size ≤ 16 := by
  have e : (a0_7.extract 0 ((mn (a0_7.size : Int) 16) : Int).toNat).size ≤ ((mn (a0_7.size : Int) 16) : Int).toNat := by
   rw [ByteArray.size_extract]; omega
  have : mn (a0_7.size : Int) 16 ≤ 16 := by unfold mn; split <;> omega
  omega
 constructor
 all_goals dsimp only
 ·rw [w1]; omega
 ·rw [w1]; omega
 ·exact fixB_right a0_1
 ·exact fixB_size a0_1
 ·rw [w2]; omega
 ·rw [w2]; omega
 ·rw [w3]; omega
 ·rw [w3]; omega
 ·rw [w4]; split <;> omega
 ·rw [w4]; split <;> omega
 ·rw [w5]; split <;> omega
 ·rw [w5]; split <;> omega
 ·split
  ·exact hm
  ·show 0 ≤ 16; omega
 ·intro hd; rw [if_pos hd, if_pos hd, if_pos hd]; exact ⟨rfl, rfl, rfl⟩
 ·intro hh
  rw [if_neg]
  rintro ⟨h1, h2⟩
  rw [if_neg (by rw [h2]; decide), h1] at hh
  cases hh
/-- Does one win? -/
def newZ (i : ByteArray) (s : Int) (j : ByteArray) (t : Int) : Bool := if s = t then decide (cmpB i j > 0) else decide (s > t)
theorem ref_newer (i : ByteArray) (q s : Int) (j : ByteArray) (p t : Int) (k : Nat) (hi : i.size ≤ 9223372036854775807) (hk : 2 * i.size + 2 ≤ k) : cenotaphref07_Newer.f k i q s j p t = some (newZ i s j t) := by
 rw [cenotaphref07_Newer.f, newZ]
 by_cases h : s = t
 ·rw [if_neg (by omega), if_pos h, if_pos h, ref_compare i j k hi hk]; rfl
 ·rw [if_neg h]
  by_cases h2 : s > t
  ·rw [if_pos h2, if_neg h, decide_eq_true h2]
  ·rw [if_neg h2, if_neg h, decide_eq_false h2]
/-- An item as the program has it. -/
def toI (x : RI) : PI := ⟨x.f0, ⟨x.f1.f0, x.f1.f1, x.f1.f2⟩, x.f2, cxOf x.f3.f0 x.f3.f1, x.f4, x.f5⟩
theorem toI_f0 (x : RI) : (toI x).f0 = x.f0 := rfl
/-- Its place is near enough to be told. -/
def NearS (x : RI) : Prop := x.f3.f0.natAbs < 2 ^ 53 ∧ x.f3.f1.natAbs < 2 ^ 53
theorem OkS.near {x : RI} (h : OkS x) : NearS x := by
 have := h.x0; have := h.x1; have := h.y0; have := h.y1
 exact ⟨by omega, by omega⟩
theorem toI_cx {x : RI} (h : NearS x) : cxInt (toI x).f3 = some (x.f3.f0, x.f3.f1) := cxInt_of h.1 h.2
/-- Does an item give way to another one of its key? -/
def givesS (o x : RI) : Bool := if o.f1.f0 = x.f1.f0 ∧ o.f1.f1 = x.f1.f1 ∧ o.f1.f2 = x.f1.f2 then x.f5 && !o.f5 else !newZ o.f1.f0 o.f1.f2 x.f1.f0 x.f1.f2
theorem baEq (a b : ByteArray) : (a.toList == b.toList) = decide (a = b) := by
 by_cases h : a = b
 ·subst h; simp
 ·rw [decide_eq_false h, beq_eq_false_iff_ne]
  intro hh
  rw [Lib.toList_data, Lib.toList_data] at hh
  exact h (ByteArray.ext (Array.toList_inj.mp hh))
theorem ver_eq (i j : ByteArray) (q p s t : Int) : (i.toList == j.toList && (q == p && (s == t))) = decide (i = j ∧ q = p ∧ s = t) := by
 rw [baEq]
 by_cases h1 : i = j <;> by_cases h2 : q = p <;> by_cases h3 : s = t <;> simp [h1, h2, h3]
abbrev ky : RI → Int := fun x => x.f0
abbrev ltI : Int → Int → Prop := fun a b => a < b
/-- Rising by their keys. -/
abbrev KR (s : List RI) : Prop := KS ltI ky s
/-- A Store that may be. -/
structure OkSt (s : List RI) : Prop where
 ks : KR s
 it : ∀ x ∈ s, OkS x
 len : s.length ≤ 12
theorem getM_cons (a : Int) (x : RI) (t : List RI) : getM ky a (x :: t) = if x.f0 = a then some x else getM ky a t := rfl
/-- An item comes. -/
def putS (s : List RI) (x : RI) : List RI × Bool := match getM ky x.f0 s with
 | none => (putM ltI ky x s, true)
 | some o => if givesS o x = true then (putM ltI ky x s, true) else (s, false)
theorem putS_KR {s : List RI} (h : KR s) (x : RI) : KR (putS s x).1 := by
 unfold putS
 split
 ·exact putM_KS toZ x h
 ·split
  ·exact putM_KS toZ x h
  ·exact h
theorem putS_mem {s : List RI} {x y : RI} (h : y ∈ (putS s x).1) : y = x ∨ y ∈ s := by
 unfold putS at h
 split at h
 ·exact ((mem_putM _ _ _).mp h).imp id (·.1)
 ·split at h
  ·exact ((mem_putM _ _ _).mp h).imp id (·.1)
  ·exact Or.inr h
theorem putS_length (s : List RI) (x : RI) : (putS s x).1.length ≤ s.length + 1 := by
 unfold putS
 split
 ·exact putM_length _ _
 ·split
  ·exact putM_length _ _
  ·exact Nat.le_succ _
def tupR (x : RI) (b : Bool) : Int × ByteArray × Int × Int × Bool × Int × Int × ByteArray × Bool × Bool := (x.f0, x.f1.f0, x.f1.f1, x.f1.f2, x.f2, x.f3.f0, x.f3.f1, x.f4, x.f5, b)
def getR (s : List RI) (a : Int) : Int × ByteArray × Int × Int × Bool × Int × Int × ByteArray × Bool × Bool := match getM ky a s with
 | some x => tupR x true
 | none => tupR z28 false
theorem rdR (s : List RI) (n : Nat) : rd_T28 s (n : Int) = s.getD n z28 := by
 unfold rd_T28; rw [Int.toNat_natCast]
theorem rdP (s : List PI) (n : Nat) : rd_T41 s (n : Int) = s.getD n z41 := by
 unfold rd_T41; rw [Int.toNat_natCast]
theorem ref_get_loop (s : List RI) (hs : s.length ≤ 100000) (a : Int) : ∀ (k n : Nat), n ≤ s.length → s.length - n < k → cenotaphref08_Get.l0 k s a n = some (getR (s.drop n) a)
 | 0, _, _, h => by omega
 | k + 1, n, hn, h => by
  rw [cenotaphref08_Get.l0]
  by_cases hlt : n < s.length
  ·rw [if_pos (by omega), if_pos (by omega), rdR, drop_getD s z28 n hlt, getR, getM_cons]
   by_cases he : (s.getD n z28).f0 = a
   ·rw [if_pos he, if_pos he]; rfl
   ·rw [if_neg he, if_neg he, wrap_nat (by omega)]
    exact ref_get_loop s hs a k (n + 1) (by omega) (by omega)
  ·rw [if_neg (by omega), List.drop_eq_nil_of_le (by omega)]; rfl
theorem ref_get (s : List RI) (hs : s.length ≤ 100000) (a : Int) (k : Nat) (hk : s.length < k) : cenotaphref08_Get.f k s a = some (getR s a) := by
 have := ref_get_loop s hs a k 0 (by omega) (by omega)
 rw [List.drop_zero] at this
 exact this
theorem ref_drop_loop (s : List RI) (hs : s.length ≤ 100000) (a : Int) : ∀ (k n : Nat) (o : List RI), n ≤ s.length → s.length - n < k → o.length ≤ n → cenotaphref08_Drop.l0 k s a o n = some (o ++ dropM ky a (s.drop n))
 | 0, _, _, _, h, _ => by omega
 | k + 1, n, o, hn, h, ho => by
  rw [cenotaphref08_Drop.l0]
  by_cases hlt : n < s.length
  ·rw [if_pos (by omega), if_pos (by omega), rdR, drop_getD s z28 n hlt, wrap_nat (by omega)]
   by_cases he : (s.getD n z28).f0 = a
   ·rw [if_pos he, ref_drop_loop s hs a k (n + 1) o (by omega) (by omega) (by omega)]
    unfold dropM
    rw [List.filter_cons_of_neg (by rw [decide_eq_true_eq]; exact fun h => h he)]
   ·rw [if_neg he, if_pos (by omega), ref_drop_loop s hs a k (n + 1) _ (by omega) (by omega) (by rw [List.length_append, List.length_singleton]; omega)]
    unfold dropM
    rw [List.filter_cons_of_pos (by rw [decide_eq_true_eq]; exact he), List.append_assoc]
    rfl
  ·rw [if_neg (by omega), List.drop_eq_nil_of_le (by omega)]
   simp [dropM]
theorem ref_drop (s : List RI) (hs : s.length ≤ 100000) (a : Int) (k : Nat) (hk : s.length < k) : cenotaphref08_Drop.f k s a = some (dropM ky a s) := by
 have := ref_drop_loop s hs a k 0 [] (by omega) (by omega) (by simp)
 rw [List.drop_zero, List.nil_append] at this
 exact this
/-- What sinks. -/
abbrev gtK (u v : RI) : Bool := decide (ltI (ky v) (ky u))
theorem ref_sink_loop (x : RI) : ∀ (k : Nat) (p q : List RI), p.length < k → p.length + q.length ≤ 100000 → cenotaphref08_Put.l0 k (p.reverse ++ x :: q) (p.length : Int) = some (sinkR gtK x p q, true)
 | 0, _, _, h, _ => by omega
 | k + 1, [], q, h, hl => by
  rw [cenotaphref08_Put.l0, if_neg (by simp)]; rfl
 | k + 1, u :: p, q, h, hl => by
  simp only [List.length_cons] at h hl
  have e1 : wrap64 (((u :: p).length : Int) - 1) = (p.length : Int) := by rw [wrap_id (by simp only [List.length_cons]; omega) (by simp only [List.length_cons]; omega)]; simp only [List.length_cons]; omega
  have hL : ((u :: p).reverse ++ x :: q) = p.reverse ++ u :: x :: q := by simp
  have h0 : (p.reverse ++ u :: x :: q).getD p.length z28 = u := by
   rw [← List.length_reverse]; simp [List.getD]
  have h1 : (p.reverse ++ u :: x :: q).getD (p.length + 1) z28 = x := by
   have : (p.reverse ++ u :: x :: q) = (p.reverse ++ [u]) ++ x :: q := by simp
   rw [this, show p.length + 1 = (p.reverse ++ [u]).length by simp]
   simp [List.getD]
  have r0 : rd_T28 (p.reverse ++ u :: x :: q) (p.length : Int) = u := by rw [rdR, h0]
  have r1 : rd_T28 (p.reverse ++ u :: x :: q) ((u :: p).length : Int) = x := by rw [rdR, List.length_cons, h1]
  have hlen : (p.reverse ++ u :: x :: q).length = p.length + q.length + 2 := by simp; omega
  rw [cenotaphref08_Put.l0, if_pos (by simp only [List.length_cons]; omega), e1, if_pos (by omega), hL, if_pos (by omega), if_pos (by omega), if_pos (by simp only [List.length_cons]; omega), r0, r1, sinkR]
  by_cases hg : u.f0 > x.f0
  ·rw [if_pos hg, if_pos (by simpa [gtK] using hg)]
   have hsw := swap_at z28 p.reverse u x q
   rw [List.length_reverse, h0, h1] at hsw
   have e2 : ((p.length : Int)).toNat = p.length := by omega
   have e3 : (((u :: p).length : Int)).toNat = p.length + 1 := by simp only [List.length_cons]; omega
   rw [e2, e3]
   have : ((p.reverse ++ u :: x :: q).set p.length x).set (p.length + 1) u = p.reverse ++ x :: u :: q := hsw
   show cenotaphref08_Put.l0 k (((p.reverse ++ u :: x :: q).set p.length x).set (p.length + 1) u) (p.length : Int) = _
   rw [this]
   exact ref_sink_loop x k p (u :: q) (by omega) (by simp only [List.length_cons]; omega)
  ·rw [if_neg hg, if_neg (by simpa [gtK] using hg)]
   simp
theorem ref_put_new (s : List RI) (hs : s.length ≤ 1000) (x : RI) (k : Nat) (hk : s.length + 2 ≤ k) : cenotaphref08_Put.j0 (k + 1) s false x.f0 x.f1.f0 x.f1.f1 x.f1.f2 x.f2 x.f3.f0 x.f3.f1 x.f4 x.f5 = some (putM ltI ky x s, true) := by
 have hd := dropM_length (key := ky) x.f0 s
 rw [cenotaphref08_Put.j0, if_neg (by decide), ref_drop s (by omega) x.f0 k (by omega), Option.bind_some, Option.bind_some, if_pos (by simp only [List.length_singleton]; omega), Option.bind_some]
 have e : wrap64 (((dropM ky x.f0 s ++ [x]).length : Int) - 1) = ((dropM ky x.f0 s).reverse.length : Int) := by
  rw [List.length_append, List.length_singleton, List.length_reverse, wrap_id (by omega) (by omega)]; omega
 show cenotaphref08_Put.l0 k (dropM ky x.f0 s ++ [x]) (wrap64 (((dropM ky x.f0 s ++ [x]).length : Int) - 1)) = _
 have hl := ref_sink_loop x k (dropM ky x.f0 s).reverse [] (by rw [List.length_reverse]; omega) (by rw [List.length_reverse, List.length_nil]; omega)
 rw [List.reverse_reverse] at hl
 rw [e, hl]
 rfl
theorem ref_put_old (s : List RI) (hs : s.length ≤ 1000) (x : RI) (k : Nat) : cenotaphref08_Put.j0 (k + 1) s true x.f0 x.f1.f0 x.f1.f1 x.f1.f2 x.f2 x.f3.f0 x.f3.f1 x.f4 x.f5 = some (s, false) := by
 rw [cenotaphref08_Put.j0, if_pos rfl, Option.bind_some, if_pos (by simp only [List.length_nil]; omega), List.nil_append]
theorem ref_put (s : List RI) (hs : s.length ≤ 1000) (hi : ∀ y ∈ s, y.f1.f0.size ≤ 6) (x : RI) (k : Nat) (hk : s.length + 20 ≤ k) : cenotaphref08_Put.f k s x.f0 x.f1.f0 x.f1.f1 x.f1.f2 x.f2 x.f3.f0 x.f3.f1 x.f4 x.f5 = some (putS s x) := by
 obtain ⟨k, rfl⟩ : ∃ m, k = m + 1 := ⟨k - 1, by omega⟩
 have hn := ref_put_new s hs x k (by omega)
 have ho := ref_put_old s hs x k
 rw [cenotaphref08_Put.f, ref_get s (by omega) x.f0 (k + 1) (by omega), Option.bind_some]
 unfold getR putS
 cases hg : getM ky x.f0 s with
 | none =>
  show (if false = true then _ else _) = _
  rw [if_neg (by decide), hn]
 | some o =>
  have hom := (getM_mem _ hg).1
  have hne : cenotaphref07_Newer.f (k + 1) o.f1.f0 o.f1.f1 o.f1.f2 x.f1.f0 x.f1.f1 x.f1.f2 = some (newZ o.f1.f0 o.f1.f2 x.f1.f0 x.f1.f2) := ref_newer _ _ _ _ _ _ _ (by have := hi o hom; omega) (by have := hi o hom; omega)
  have hv := ver_eq o.f1.f0 x.f1.f0 o.f1.f1 x.f1.f1 o.f1.f2 x.f1.f2
  refine (if_pos rfl).trans ?_
  show _ = some (if givesS o x = true then (putM ltI ky x s, true) else (s, false))
  by_cases he : o.f1.f0 = x.f1.f0 ∧ o.f1.f1 = x.f1.f1 ∧ o.f1.f2 = x.f1.f2
  ·have hne2 : ¬ (!(o.f1.f0.toList == x.f1.f0.toList) || (!(o.f1.f1 == x.f1.f1) || (!(o.f1.f2 == x.f1.f2)))) = true := by
    rw [he.1, he.2.1, he.2.2]; simp
   refine (if_pos (hv.trans (decide_eq_true he))).trans ?_
   rw [givesS, if_pos he]
   cases h5 : o.f5 with
   | true =>
    refine (if_pos h5).trans ?_
    rw [ho]; simp
   | false =>
    refine (if_neg (show ¬ o.f5 = true by rw [h5]; decide)).trans ?_
    cases h6 : x.f5 with
    | true =>
     rw [if_pos rfl]
     refine (if_neg hne2).trans ?_
     rw [← h6, hn, h6]; rfl
    | false =>
     rw [if_neg (by decide), ← h6, ho, h6]; rfl
  ·have hne2 : (!(o.f1.f0.toList == x.f1.f0.toList) || (!(o.f1.f1 == x.f1.f1) || (!(o.f1.f2 == x.f1.f2)))) = true := by
    rw [decide_eq_false he] at hv
    have : (!(o.f1.f0.toList == x.f1.f0.toList && (o.f1.f1 == x.f1.f1 && (o.f1.f2 == x.f1.f2)))) = true := by rw [hv]; rfl
    rw [Bool.not_and, Bool.not_and] at this
    exact this
   refine (if_neg (show ¬ (o.f1.f0.toList == x.f1.f0.toList && (o.f1.f1 == x.f1.f1 && (o.f1.f2 == x.f1.f2))) = true by rw [hv, decide_eq_false he]; decide)).trans ?_
   refine (if_pos hne2).trans ?_
   show (cenotaphref07_Newer.f (k + 1) o.f1.f0 o.f1.f1 o.f1.f2 x.f1.f0 x.f1.f1 x.f1.f2).bind _ = _
   rw [hne, Option.bind_some, givesS, if_neg he]
   cases newZ o.f1.f0 o.f1.f2 x.f1.f0 x.f1.f2 with
   | true => rw [ho]; rfl
   | false => rw [hn]; rfl
theorem to_loop (s : List RI) (hs : s.length ≤ 100000) : ∀ (k n : Nat) (o : List PI), n ≤ s.length → s.length - n < k → o.length ≤ n → cenotaphlaw08_To.l0 k s o n = some (o ++ (s.drop n).map toI)
 | 0, _, _, _, h, _ => by omega
 | k + 1, n, o, hn, h, ho => by
  rw [cenotaphlaw08_To.l0]
  by_cases hlt : n < s.length
  ·rw [if_pos (by omega), if_pos (by omega), rdR, drop_getD s z28 n hlt, wrap_nat (by omega), cenotaphlaw07_To.f, Option.bind_some, if_pos (by omega),
    to_loop s hs k (n + 1) _ (by omega) (by omega) (by rw [List.length_append, List.length_singleton]; omega), List.append_assoc]
   rfl
  ·rw [if_neg (by omega), List.drop_eq_nil_of_le (by omega)]
   simp
theorem to_ok (s : List RI) (hs : s.length ≤ 100000) (k : Nat) (hk : s.length < k) : cenotaphlaw08_To.f k s = some (s.map toI) := by
 have := to_loop s hs k 0 [] (by omega) (by omega) (by simp)
 rw [List.drop_zero, List.nil_append] at this
 exact this
theorem toI_at (s : List RI) (i : Nat) (h : i < s.length) : (s.map toI).getD i z41 = toI s[i] := by
 simp [List.getD, h]
/-- What Fix makes of any items is a Store that may be. -/
theorem fix_loop (l : List RI) (hl : l.length ≤ 9223372036854775807) : ∀ (d n : Nat) (o : List RI), 12 - n = d → n ≤ 12 → n ≤ l.length → KR o → (∀ x ∈ o, OkS x) → o.length ≤ n → ∃ r, OkSt r ∧ ∀ k, 200 * (d + 1) ≤ k → cenotaphref08_Fix.l0 k l o n = some r := by
 intro d
 induction d with
 | zero =>
  intro n o hd hn hnl hk ho hlen
  refine ⟨o, ⟨hk, ho, by omega⟩, fun k hkk => ?_⟩
  obtain ⟨k, rfl⟩ : ∃ m, k = m + 2 := ⟨k - 2, by omega⟩
  rw [cenotaphref08_Fix.l0]
  by_cases h : (n : Int) < (l.length : Int)
  ·rw [if_pos h, cenotaphref08_Fix.j1, decide_eq_false (by omega), if_neg (by decide)]
  ·rw [if_neg h, cenotaphref08_Fix.j1, if_neg (by decide)]
 | succ d ih =>
  intro n o hd hn hnl hk ho hlen
  by_cases h : n < l.length
  ·have hlt : (n : Int) < (l.length : Int) := by omega
   obtain ⟨x, hx, ex⟩ := fix_ok (l.getD n z28).f0 (l.getD n z28).f1.f0 (l.getD n z28).f1.f1 (l.getD n z28).f1.f2 (l.getD n z28).f2 (l.getD n z28).f3.f0 (l.getD n z28).f3.f1 (l.getD n z28).f4 (l.getD n z28).f5
   obtain ⟨r0, hr0, e0⟩ := ih (n + 1) o (by omega) (by omega) (by omega) hk ho (by omega)
   obtain ⟨r1, hr1, e1⟩ := ih (n + 1) (putS o x).1 (by omega) (by omega) (by omega) (putS_KR hk x) (fun y hy => (putS_mem hy).elim (fun e => e ▸ hx) (ho y)) (by have := putS_length o x; omega)
   have hput : ∀ k, 200 ≤ k → cenotaphref08_Put.f k o x.f0 x.f1.f0 x.f1.f1 x.f1.f2 x.f2 x.f3.f0 x.f3.f1 x.f4 x.f5 = some (putS o x) := fun k hkk => ref_put o (by omega) (fun y hy => (ho y hy).i1) x k (by omega)
   have hloop : ∀ (m : Nat) (t : Bool), m ≤ o.length → ∃ r, OkSt r ∧ ∀ k, 200 * (d + 1) + 1 + (o.length - m) ≤ k → cenotaphref08_Fix.l1 k l o n t m x.f0 x.f1.f0 x.f1.f1 x.f1.f2 x.f2 x.f3.f0 x.f3.f1 x.f4 x.f5 = some r := by
    intro m
    generalize hg : o.length - m = g
    induction g generalizing m with
    | zero =>
     intro t hm
     cases t with
     | true =>
      refine ⟨r0, hr0, fun k hkk => ?_⟩
      obtain ⟨k, rfl⟩ : ∃ m, k = m + 1 := ⟨k - 1, by omega⟩
      rw [cenotaphref08_Fix.l1, if_neg (by omega), if_pos rfl, wrap_nat (by omega)]
      exact e0 k (by omega)
     | false =>
      refine ⟨r1, hr1, fun k hkk => ?_⟩
      obtain ⟨k, rfl⟩ : ∃ m, k = m + 1 := ⟨k - 1, by omega⟩
      rw [cenotaphref08_Fix.l1, if_neg (by omega), if_neg (by decide), hput k (by omega), Option.bind_some, wrap_nat (by omega)]
      exact e1 k (by omega)
    | succ g ihg =>
     intro t hm
     have hmo : m < o.length := by omega
     cases t with
     | true =>
      obtain ⟨r, hr, e⟩ := ihg (m + 1) (by omega) true (by omega)
      refine ⟨r, hr, fun k hkk => ?_⟩
      obtain ⟨k, rfl⟩ : ∃ m, k = m + 1 := ⟨k - 1, by omega⟩
      rw [cenotaphref08_Fix.l1, if_pos (by omega), if_pos rfl, wrap_nat (by omega)]
      exact e k (by omega)
     | false =>
      by_cases hs : (rd_T28 o (m : Int)).f1.f2 = x.f1.f2
      ·obtain ⟨r, hr, e⟩ := ihg (m + 1) (by omega) ((rd_T28 o (m : Int)).f1.f0.toList == x.f1.f0.toList) (by omega)
       refine ⟨r, hr, fun k hkk => ?_⟩
       obtain ⟨k, rfl⟩ : ∃ m, k = m + 1 := ⟨k - 1, by omega⟩
       rw [cenotaphref08_Fix.l1, if_pos (by omega), if_neg (by decide), if_pos (by omega), if_pos hs, wrap_nat (by omega)]
       exact e k (by omega)
      ·obtain ⟨r, hr, e⟩ := ihg (m + 1) (by omega) false (by omega)
       refine ⟨r, hr, fun k hkk => ?_⟩
       obtain ⟨k, rfl⟩ : ∃ m, k = m + 1 := ⟨k - 1, by omega⟩
       rw [cenotaphref08_Fix.l1, if_pos (by omega), if_neg (by decide), if_pos (by omega), if_neg hs, wrap_nat (by omega)]
       exact e k (by omega)
   obtain ⟨r, hr, e⟩ := hloop 0 false (by omega)
   refine ⟨r, hr, fun k hkk => ?_⟩
   obtain ⟨k, rfl⟩ : ∃ m, k = m + 2 := ⟨k - 2, by omega⟩
   rw [cenotaphref08_Fix.l0, if_pos hlt, cenotaphref08_Fix.j1, decide_eq_true (by omega), if_pos rfl, if_pos (by omega), if_pos hlt, rdR, ex k (by omega), Option.bind_some]
   exact e k (by omega)
  ·refine ⟨o, ⟨hk, ho, by omega⟩, fun k hkk => ?_⟩
   obtain ⟨k, rfl⟩ : ∃ m, k = m + 2 := ⟨k - 2, by omega⟩
   rw [cenotaphref08_Fix.l0, if_neg (by omega), cenotaphref08_Fix.j1, if_neg (by decide)]
theorem fix_st (l : List RI) (hl : l.length ≤ 9223372036854775807) : ∃ r, OkSt r ∧ ∀ k, 2600 ≤ k → cenotaphref08_Fix.f k l = some r := by
 obtain ⟨r, hr, e⟩ := fix_loop l hl 12 0 [] rfl (by omega) (by omega) KS.nil (fun x hx => by cases hx) (by simp)
 exact ⟨r, hr, fun k hk => e k (by omega)⟩
theorem ref_right_loop (a : ByteArray) (hs : a.size ≤ 6) (d : Nat) : ∀ (k n : Nat), a.size - n = d → n ≤ a.size → d < k →
  cenotaphref01_Right.l0 k a (n : Int) = some ((a.data.toList.drop n).all okDigit) := by
 induction d with
 | zero =>
  intro k n hd hn hk
  obtain ⟨k, rfl⟩ : ∃ m, k = m + 1 := ⟨k - 1, by omega⟩
  simp only [cenotaphref01_Right.l0]; rw [if_neg (by omega)]
  rw [List.drop_eq_nil_of_le (by rw [← size_list]; omega)]; rfl
 | succ d ih =>
  intro k n hd hn hk
  obtain ⟨k, rfl⟩ : ∃ m, k = m + 1 := ⟨k - 1, by omega⟩
  have hlt : n < a.size := by omega
  simp only [cenotaphref01_Right.l0]; rw [if_pos (by omega), if_pos (by omega), bt_get a n hlt, drop_all _ _ (by rw [← size_list]; exact hlt)]
  generalize a.data.toList.getD n 0 = c
  by_cases hc : okDigit c = true
  ·have h1 : 49 ≤ (c.toNat : Int) ∧ (c.toNat : Int) ≤ 57 := by simp [okDigit, UInt8.le_iff_toNat_le] at hc; omega
   rw [if_neg (by omega), if_neg (by omega), wrap_id (by omega) (by omega)]
   have := ih k (n + 1) (by omega) (by omega) (by omega)
   simp only [Int.natCast_add, Int.cast_ofNat_Int] at this
   rw [this, hc]; rfl
  ·have h1 : (c.toNat : Int) < 49 ∨ (c.toNat : Int) > 57 := by simp [okDigit, UInt8.le_iff_toNat_le] at hc; omega
   have h2 : okDigit c = false := by simpa using hc
   rw [h2]
   by_cases h3 : (c.toNat : Int) < 49
   ·rw [if_pos h3]; rfl
   ·rw [if_neg h3, if_pos (by omega)]; rfl
theorem ref_right (a : ByteArray) (k : Nat) (hk : 9 ≤ k) : cenotaphref01_Right.f k a = some (rightB a) := by
 obtain ⟨k, rfl⟩ : ∃ m, k = m + 1 := ⟨k - 1, by omega⟩
 have hs := size_list a
 rw [rightB_eq]
 unfold cenotaphref01_Right.f
 simp only [cenotaphref01_Right.j0]
 by_cases h1 : (a.size : Int) < 1
 ·have h0 : a.data.toList = [] := List.eq_nil_of_length_eq_zero (by omega)
  rw [if_pos h1, if_pos trivial, h0]; rfl
 ·rw [if_neg h1]
  cases e : a.data.toList with
  | nil => rw [e] at hs; exact absurd hs (by simp only [List.length_nil]; omega)
  | cons c t =>
   rw [e] at hs
   simp only [List.length_cons] at hs
   by_cases h6 : (a.size : Int) > 6
   ·rw [if_pos h6, if_pos trivial]; simp only [idL]; rw [decide_eq_false (by omega)]; simp
   ·have e0 := bt_get a 0 (by omega)
    rw [e] at e0
    have e1 : bt a 0 = (c.toNat : Int) := e0
    rw [if_neg h6, if_pos (by omega), e1]
    simp only [idL]
    rw [decide_eq_true (show t.length ≤ 5 by omega)]
    by_cases hc : c = 48
    ·subst hc
     have := ref_right_loop a (by omega) (a.size - 1) k 1 rfl (by omega) (by omega)
     rw [e] at this
     simpa using this
    ·have h3 : (c == 48) = false := by simpa using hc
     have h4 : ((c.toNat : Int) != 48) = true := by
      rw [bne_iff_ne]; intro h; apply hc
      exact UInt8.toNat_inj.mp (by show c.toNat = 48; omega)
     rw [h4, h3]; simp
/-- More steps tell the same. -/
theorem up_mono {α : Type} {f : Nat → Option α} (hm : ∀ k, LeO (f k) (f (k + 1))) {k0 : Nat} {r : α} (h : f k0 = some r) : ∀ k, k0 ≤ k → f k = some r := by
 intro k hk
 obtain ⟨d, rfl⟩ : ∃ d, k = k0 + d := ⟨k - k0, by omega⟩
 clear hk
 induction d with
 | zero => exact h
 | succ d ih => exact hm _ _ ih
/-- May an item be? -/
def rightI (I : RI) : Bool := if I.f0 < 0 then false else if 32 ≤ I.f0 then false else if rightB I.f1.f0 = false then false else if ¬ (1 ≤ I.f1.f1 ∧ I.f1.f1 ≤ 1048576 ∧ 1 ≤ I.f1.f2 ∧ I.f1.f2 ≤ 1048576) then false else if spotOk I.f3.f0 I.f3.f1 = false then false else if 16 < (I.f4.size : Int) then false
 else if I.f2 = true ∧ (I.f5 = true ∨ ¬ (I.f3.f0 = 0 ∧ I.f3.f1 = 0)) then false else if I.f5 = true then true else ((I.f4.size : Int) == 0)
theorem empty_size (t : ByteArray) : t.toList.isEmpty = ((t.size : Int) == 0) := by
 rw [Lib.toList_data]
 have h : t.size = t.data.toList.length := by simp
 rw [h]
 cases t.data.toList with
 | nil => rfl
 | cons a l =>
  symm
  rw [List.isEmpty_cons, beq_eq_false_iff_ne, List.length_cons]
  omega
theorem right_prog (I : RI) : itRight I.f0 I.f1.f0 I.f1.f1 I.f1.f2 I.f2 I.f3.f0 I.f3.f1 I.f4 I.f5 = some (rightI I) := by
 rw [itRight, rightI]
 by_cases h1 : I.f0 < 0
 ·rw [if_pos h1, if_pos h1]
 rw [if_neg h1, if_neg h1]
 by_cases h2 : 32 ≤ I.f0
 ·rw [if_pos h2, if_pos h2]
 rw [if_neg h2, if_neg h2, item_Version_right.f, id_Right.f, Option.bind_some]
 cases h3 : rightB I.f1.f0 with
 | false =>
  rw [if_neg (by decide), if_pos rfl, Option.bind_some, if_pos rfl]
 | true =>
  rw [if_pos rfl, if_neg (show ¬ (true = false) by decide)]
  by_cases h4 : 1 ≤ I.f1.f1 ∧ I.f1.f1 ≤ 1048576 ∧ 1 ≤ I.f1.f2 ∧ I.f1.f2 ≤ 1048576
  ·obtain ⟨a, b, c, d⟩ := h4
   rw [if_pos a, if_pos b, if_pos c, decide_eq_true d, Option.bind_some, if_neg (show ¬ (true = false) by decide), if_neg (show ¬ ¬ (1 ≤ I.f1.f1 ∧ I.f1.f1 ≤ 1048576 ∧ 1 ≤ I.f1.f2 ∧ I.f1.f2 ≤ 1048576) from fun h => h ⟨a, b, c, d⟩)]
   cases h5 : spotOk I.f3.f0 I.f3.f1 with
   | false => rw [if_pos rfl, if_pos rfl]
   | true =>
    rw [if_neg (show ¬ (true = false) by decide), if_neg (show ¬ (true = false) by decide)]
    by_cases h6 : 16 < (I.f4.size : Int)
    ·rw [if_pos h6, if_pos h6]
    rw [if_neg h6, if_neg h6]
    by_cases h7 : I.f2 = true ∧ (I.f5 = true ∨ ¬ (I.f3.f0 = 0 ∧ I.f3.f1 = 0))
    ·rw [if_pos h7, if_pos h7]
    rw [if_neg h7, if_neg h7]
    by_cases h8 : I.f5 = true
    ·rw [if_pos h8, if_pos h8]
    ·rw [if_neg h8, if_neg h8, empty_size]
  ·have e : (if I.f1.f1 ≥ 1 then (if I.f1.f1 ≤ 1048576 then (if I.f1.f2 ≥ 1 then some (decide (I.f1.f2 ≤ 1048576)) else some false) else some false) else some false) = some false := by
    by_cases a : I.f1.f1 ≥ 1
    ·rw [if_pos a]
     by_cases b : I.f1.f1 ≤ 1048576
     ·rw [if_pos b]
      by_cases c : I.f1.f2 ≥ 1
      ·rw [if_pos c, decide_eq_false (fun d => h4 ⟨a, b, c, d⟩)]
      ·rw [if_neg c]
     ·rw [if_neg b]
    ·rw [if_neg a]
   rw [e, Option.bind_some, if_pos rfl, if_pos h4]
theorem own_right (I : RI) (h : NearS I) : item_Right.f (toI I).f0 (toI I).f1.f0 (toI I).f1.f1 (toI I).f1.f2 (toI I).f2 (toI I).f3 (toI I).f4 (toI I).f5 = some (rightI I) := by
 rw [item_Right.f, toI_cx h, Option.bind_some]
 exact right_prog I
/-- Is it above what was before? -/
def lowS (p : Option Int) (b : Int) : Bool := match p with
 | none => true
 | some a => decide (a < b)
/-- May a list be a Store? -/
def rightS : List RI → Option Int → Bool
 | [], _ => true
 | x :: t, p => rightI x && lowS p x.f0 && rightS t (some x.f0)
theorem order_to (a b : PI) : store_order.f a.f0 a.f1.f0 a.f1.f1 a.f1.f2 a.f2 a.f3 a.f4 a.f5 b.f0 b.f1.f0 b.f1.f1 b.f1.f2 b.f2 b.f3 b.f4 b.f5 = some (cmpI a.f0 b.f0) := by
 rw [store_order.f, cmp_Compare_int.f, cmp_isNaN_int.f, cmp_isNaN_int.f]
 simp only [bne_self_eq_false, Option.bind_some]
 rw [if_neg (by decide), if_neg (by decide), cmpI]
 split
 ·rfl
 ·split <;> rfl
def prevS (s : List RI) (n : Nat) : Option Int := if n = 0 then none else some (s.getD (n - 1) z28).f0
theorem own_right_loop (s : List RI) (hs : s.length ≤ 100000) (hn : ∀ x ∈ s, NearS x) : ∀ (k n : Nat), n ≤ s.length → s.length - n < k → store_Right.l0 k (s.map toI) (s.map toI) (s.length : Int) n = some (rightS (s.drop n) (prevS s n))
 | 0, _, _, h => by omega
 | k + 1, n, hnl, h => by
  have hl : (s.map toI).length = s.length := List.length_map _
  rw [store_Right.l0]
  by_cases hlt : n < s.length
  ·have hg : s.getD n z28 = s[n] := by simp [List.getD, hlt]
   rw [if_pos (by omega), if_pos (by omega), if_pos (by omega), rdP, toI_at s n hlt, own_right _ (hn _ (List.getElem_mem _)), Option.bind_some, drop_getD s z28 n hlt, hg, rightS, wrap_nat (by omega)]
   cases hr : rightI s[n] with
   | false => rw [if_neg (by decide)]; simp
   | true =>
    rw [if_pos rfl]
    by_cases h0 : n = 0
    ·subst h0
     rw [if_neg (by omega), own_right_loop s hs hn k 1 (by omega) (by omega), ← hg]
     simp [prevS, lowS]
    ·have e1 : wrap64 ((n : Int) - 1) = ((n - 1 : Nat) : Int) := by rw [wrap_id (by omega) (by omega)]; omega
     have hg1 : s.getD (n - 1) z28 = s[n - 1] := by simp [List.getD, show n - 1 < s.length by omega]
     rw [if_pos (by omega), e1, if_pos (by omega), if_pos (by omega), rdP, toI_at s (n - 1) (by omega), order_to, Option.bind_some, toI_f0, toI_f0]
     rw [prevS, if_neg h0, hg1]
     by_cases hc : s[n - 1].f0 < s[n].f0
     ·have hneg := cmpI_neg.mpr hc
      rw [if_neg (by omega), own_right_loop s hs hn k (n + 1) (by omega) (by omega), prevS, if_neg (by omega), Nat.add_sub_cancel, hg]
      simp [hc, lowS]
     ·have hneg := mt cmpI_neg.mp hc
      rw [if_pos (by omega)]
      simp [hc, lowS]
  ·rw [if_neg (by omega), List.drop_eq_nil_of_le (by omega)]; rfl
theorem own_right_all (s : List RI) (hs : s.length ≤ 100000) (hn : ∀ x ∈ s, NearS x) (k : Nat) (hk : s.length < k) : store_Right.f k (s.map toI) = some (rightS s none) := by
 have := own_right_loop s hs hn k 0 (by omega) (by omega)
 rw [List.drop_zero] at this
 rw [store_Right.f, List.length_map]
 exact this
theorem right_of_ok {x : RI} (h : OkS x) : rightI x = true := by
 have := h.k0; have := h.k1; have := h.t1
 rw [rightI, if_neg (by omega), if_neg (by omega), h.i0, if_neg (by decide), if_neg (fun hh => hh ⟨h.q0, h.q1, h.s0, h.s1⟩)]
 have hs : spotOk x.f3.f0 x.f3.f1 = true := by
  rw [spotOk, decide_eq_true ⟨h.x0, h.x1⟩, decide_eq_true ⟨h.y0, h.y1⟩]; rfl
 rw [hs, if_neg (by decide), if_neg (by omega)]
 rw [if_neg (fun hh => by
  obtain ⟨hd, hh⟩ := hh
  obtain ⟨h1, h2, h3⟩ := h.d1 hd
  rcases hh with hh | hh
  ·rw [h1] at hh; cases hh
  ·exact hh ⟨h2, h3⟩)]
 by_cases hh : x.f5 = true
 ·rw [if_pos hh]
 ·rw [if_neg hh, h.h1 (by simpa using hh)]
  rfl
theorem rightS_ok : ∀ {s : List RI} (p : Option Int), KR s → (∀ x ∈ s, OkS x) → (∀ a, p = some a → ∀ x ∈ s, a < x.f0) → rightS s p = true
 | [], _, _, _, _ => rfl
 | x :: t, p, hk, ho, hp => by
  rw [rightS, right_of_ok (ho x (by simp)), rightS_ok (some x.f0) hk.tail (fun y hy => ho y (by simp [hy])) (fun a e y hy => by cases e; exact hk.head hy)]
  cases p with
  | none => rfl
  | some a => simp [lowS, hp a rfl x (by simp)]
theorem own_right_ok {s : List RI} (h : KR s) (ho : ∀ x ∈ s, OkS x) (hs : s.length ≤ 100000) (k : Nat) (hk : s.length < k) : store_Right.f k (s.map toI) = some true := by
 rw [own_right_all s hs (fun x hx => (ho x hx).near) k hk, rightS_ok none h ho (fun a e => by cases e)]
theorem told_ok (k : Nat) (hk : 10 ≤ k) : cenotaphlaw08_told.f k = some true := by
 refine up_mono (f := cenotaphlaw08_told.f) (k0 := 10) (fun k => cenotaphlaw08_told.mono k) ?_ k hk
 kernel_rfl
theorem near_ok (x : Int) : cenotaphref05_near.f x 1000 = some (decide (-1000 ≤ x ∧ x ≤ 1000)) := by
 have hw : wrap64 (-1000) = -1000 := wrap_id (by omega) (by omega)
 rw [cenotaphref05_near.f, hw]
 by_cases h : x ≥ -1000
 ·rw [if_pos h]
  by_cases h2 : x ≤ 1000
  ·rw [decide_eq_true h2, decide_eq_true ⟨h, h2⟩]
  ·rw [decide_eq_false h2, decide_eq_false (fun hh => h2 hh.2)]
 ·rw [if_neg h, decide_eq_false (fun hh => h hh.1)]
theorem whole_ok (x y : Int) : cenotaphref05_Whole.f x y = some (spotOk x y) := by
 rw [cenotaphref05_Whole.f, near_ok, Option.bind_some, spotOk]
 cases decide (-1000 ≤ x ∧ x ≤ 1000) with
 | false => rw [if_neg (by decide)]; rfl
 | true => rw [if_pos rfl, near_ok, Option.bind_some]; rfl
theorem j0_true (k : Int) (i : ByteArray) (q s : Int) (d : Bool) (x y : Int) (t : ByteArray) (h : Bool) : cenotaphref07_Right.j0 100 true k i q s d x y t h = some false := by
 simp only [cenotaphref07_Right.j0]
 rw [if_pos trivial]
theorem j0_false (k : Int) (i : ByteArray) (q s : Int) (d : Bool) (x y : Int) (t : ByteArray) (h : Bool) : cenotaphref07_Right.j0 100 false k i q s d x y t h = some (if spotOk x y = false then false else if 16 < (t.size : Int) then false
 else if d = true ∧ (h = true ∨ ¬ (x = 0 ∧ y = 0)) then false else if h = true then true else ((t.size : Int) == 0)) := by
 simp only [cenotaphref07_Right.j0, whole_ok]
 rw [if_neg (by decide), Option.bind_some]
 cases spotOk x y with
 | false => rw [if_neg (by decide), if_pos rfl]
 | true =>
  rw [if_pos rfl, if_neg (show ¬ (true = false) by decide)]
  by_cases h6 : 16 < (t.size : Int)
  ·rw [if_pos h6, if_pos h6]
  rw [if_neg h6, if_neg h6]
  cases d with
  | false =>
   rw [if_neg (show ¬ (false = true) by decide), if_neg (show ¬ (false = true ∧ (h = true ∨ ¬ (x = 0 ∧ y = 0))) from fun hh => by cases hh.1)]
   cases h with
   | true => rfl
   | false => rfl
  | true =>
   rw [if_pos rfl]
   by_cases hx : x = 0 ∧ y = 0
   ·obtain ⟨rfl, rfl⟩ := hx
    rw [if_neg (by decide)]
    cases h with
    | true => rw [if_pos rfl, if_pos ⟨rfl, .inl rfl⟩]
    | false => rw [if_neg (by decide), if_neg (fun hh => hh.2.elim (fun z => by cases z) (fun z => z ⟨rfl, rfl⟩)), if_neg (by decide)]
   ·have e : (!(x == 0) || (!(y == 0))) = true := by
     by_cases h1 : x = 0
     ·have h2 : y ≠ 0 := fun h2 => hx ⟨h1, h2⟩
      simp [h2]
     ·simp [h1]
    rw [if_pos e, if_pos ⟨rfl, .inr hx⟩]
theorem right_ref (I : RI) (k : Nat) (hk : k = 100) : cenotaphref07_Right.f k I.f0 I.f1.f0 I.f1.f1 I.f1.f2 I.f2 I.f3.f0 I.f3.f1 I.f4 I.f5 = some (rightI I) := by
 subst hk
 rw [cenotaphref07_Right.f, rightI]
 by_cases h1 : I.f0 < 0
 ·rw [if_pos h1, if_pos h1, j0_true]
 rw [if_neg h1, if_neg h1]
 by_cases h2 : 32 ≤ I.f0
 ·rw [if_pos h2, if_pos (by omega), j0_true]
 rw [if_neg h2, if_neg (by omega), ref_right I.f1.f0 100 (by omega), Option.bind_some]
 cases h3 : rightB I.f1.f0 with
 | false => rw [if_neg (by decide), if_pos rfl, j0_true]
 | true =>
  rw [if_pos rfl, if_neg (show ¬ (true = false) by decide)]
  by_cases a : I.f1.f1 < 1
  ·rw [if_pos a, j0_true, if_pos (by omega)]
  rw [if_neg a]
  by_cases b : I.f1.f1 > 1048576
  ·rw [if_pos b, j0_true, if_pos (by omega)]
  rw [if_neg b]
  by_cases c : I.f1.f2 < 1
  ·rw [if_pos c, j0_true, if_pos (by omega)]
  rw [if_neg c]
  by_cases d : I.f1.f2 > 1048576
  ·rw [decide_eq_true d, j0_true, if_pos (by omega)]
  rw [decide_eq_false d, j0_false, if_neg (show ¬ ¬ (1 ≤ I.f1.f1 ∧ I.f1.f1 ≤ 1048576 ∧ 1 ≤ I.f1.f2 ∧ I.f1.f2 ≤ 1048576) from fun h => h ⟨by omega, by omega, by omega, by omega⟩)]
theorem right_ref_up (I : RI) (k : Nat) (hk : 100 ≤ k) : cenotaphref07_Right.f k I.f0 I.f1.f0 I.f1.f1 I.f1.f2 I.f2 I.f3.f0 I.f3.f1 I.f4 I.f5 = some (rightI I) :=
 up_mono (fun k => cenotaphref07_Right.mono _ _ _ _ _ _ _ _ _ k) (right_ref I 100 rfl) k hk
theorem ref_right_loop8 (s : List RI) (hs : s.length ≤ 100000) : ∀ (k n : Nat), n ≤ s.length → s.length - n + 100 < k → cenotaphref08_Right.l0 k s n = some (rightS (s.drop n) (prevS s n))
 | 0, _, _, h => by omega
 | k + 1, n, hnl, h => by
  rw [cenotaphref08_Right.l0]
  by_cases hlt : n < s.length
  ·have hg : s.getD n z28 = s[n] := by simp [List.getD, hlt]
   rw [if_pos (by omega), if_pos (by omega), rdR, hg, right_ref_up _ k (by omega), Option.bind_some, drop_getD s z28 n hlt, hg, rightS, wrap_nat (by omega)]
   cases hr : rightI s[n] with
   | false => rw [if_neg (by decide)]; simp
   | true =>
    rw [if_pos rfl]
    by_cases h0 : n = 0
    ·subst h0
     rw [if_neg (by omega), ref_right_loop8 s hs k 1 (by omega) (by omega), ← hg]
     simp [prevS, lowS]
    ·have e1 : wrap64 ((n : Int) - 1) = ((n - 1 : Nat) : Int) := by rw [wrap_id (by omega) (by omega)]; omega
     have hg1 : s.getD (n - 1) z28 = s[n - 1] := by simp [List.getD, show n - 1 < s.length by omega]
     rw [if_pos (by omega), e1, if_pos (by omega), if_pos (by omega), rdR, hg1]
     rw [prevS, if_neg h0, hg1]
     by_cases hc : s[n - 1].f0 < s[n].f0
     ·rw [if_neg (by omega), ref_right_loop8 s hs k (n + 1) (by omega) (by omega), prevS, if_neg (by omega), Nat.add_sub_cancel, hg]
      simp [hc, lowS]
     ·rw [if_pos (by omega)]
      simp [hc, lowS]
  ·rw [if_neg (by omega), List.drop_eq_nil_of_le (by omega)]; rfl
theorem ref_right_all (s : List RI) (hs : s.length ≤ 100000) (k : Nat) (hk : s.length + 100 < k) : cenotaphref08_Right.f k s = some (rightS s none) := by
 have := ref_right_loop8 s hs k 0 (by omega) (by omega)
 rw [List.drop_zero] at this
 exact this
/-- Do two items differ? -/
def neR (x y : RI) : Bool := (!((x.f0) == (y.f0)) || ((!(((x.f1.f0).toList) == ((y.f1.f0).toList)) || (!((x.f1.f1) == (y.f1.f1)) || (!((x.f1.f2) == (y.f1.f2))))) || (!((x.f2) == (y.f2)) || ((!((x.f3.f0) == (y.f3.f0)) || (!((x.f3.f1) == (y.f3.f1)))) || (!(((x.f4).toList) == ((y.f4).toList)) || (!((x.f5) == (y.f5))))))))
def sameS : List RI → List RI → Bool
 | x :: s, y :: t => if neR x y = true then false else sameS s t
 | _, _ => true
theorem ref_same_loop (a b : List RI) (hs : a.length ≤ 100000) (hb : a.length = b.length) : ∀ (k n : Nat), n ≤ a.length → a.length - n < k → cenotaphref08_Same.l0 k a b n = some (sameS (a.drop n) (b.drop n))
 | 0, _, _, h => by omega
 | k + 1, n, hn, h => by
  rw [cenotaphref08_Same.l0]
  by_cases hlt : n < a.length
  ·rw [if_pos (by omega), if_pos (by omega), if_pos (by omega), rdR, rdR, drop_getD a z28 n hlt, drop_getD b z28 n (by omega), sameS, wrap_nat (by omega), ref_same_loop a b hs hb k (n + 1) (by omega) (by omega)]
   show (if neR _ _ = true then _ else _) = _
   split <;> rfl
  ·rw [if_neg (by omega), List.drop_eq_nil_of_le (by omega)]; rfl
/-- The same items? -/
def eqS (a b : List RI) : Bool := if a.length = b.length then sameS a b else false
theorem ref_same (a b : List RI) (hs : a.length ≤ 100000) (k : Nat) (hk : a.length < k) : cenotaphref08_Same.f k a b = some (eqS a b) := by
 rw [cenotaphref08_Same.f, eqS]
 by_cases h : a.length = b.length
 ·rw [if_pos (by omega), if_pos h]
  have := ref_same_loop a b hs h k 0 (by omega) (by omega)
  rw [List.drop_zero, List.drop_zero] at this
  exact this
 ·rw [if_neg (by omega), if_neg h]
theorem neP_to (x y : RI) (hx : NearS x) (hy : NearS y) : (!(((toI x).f0) == ((toI y).f0)) || ((!((((toI x).f1.f0).toList) == (((toI y).f1.f0).toList)) || (!(((toI x).f1.f1) == ((toI y).f1.f1)) || (!(((toI x).f1.f2) == ((toI y).f1.f2))))) || (!(((toI x).f2) == ((toI y).f2)) || (!(cxq ((toI x).f3).re ((toI x).f3).im ((toI y).f3).re ((toI y).f3).im) || (!((((toI x).f4).toList) == (((toI y).f4).toList)) || (!(((toI x).f5) == ((toI y).f5)))))))) = neR x y := by
 have h := cxq_of hx.1 hx.2 hy.1 hy.2
 have h2 : cxq ((toI x).f3).re ((toI x).f3).im ((toI y).f3).re ((toI y).f3).im = ((x.f3.f0 == y.f3.f0) && (x.f3.f1 == y.f3.f1)) := by
  refine h.trans ?_
  congr 1
 rw [h2, Bool.not_and]
 rfl
theorem own_same_loop (a b : List RI) (ha : ∀ x ∈ a, NearS x) (hb : ∀ x ∈ b, NearS x) (hs : a.length ≤ 100000) (hl : a.length = b.length) : ∀ (k n : Nat), n ≤ a.length → a.length - n < k → item_Item_48.l0 k (a.map toI) (b.map toI) (a.length : Int) n = some (sameS (a.drop n) (b.drop n))
 | 0, _, _, h => by omega
 | k + 1, n, hn, h => by
  have hla : (a.map toI).length = a.length := List.length_map _
  have hlb : (b.map toI).length = b.length := List.length_map _
  rw [item_Item_48.l0]
  by_cases hlt : n < a.length
  ·have hga : a.getD n z28 = a[n] := by simp [List.getD, hlt]
   have hgb : b.getD n z28 = b[n] := by simp [List.getD, show n < b.length by omega]
   rw [if_pos (by omega), if_pos (by omega), if_pos (by omega), if_pos (by omega), rdP, rdP, toI_at a n hlt, toI_at b n (by omega), neP_to _ _ (ha _ (List.getElem_mem _)) (hb _ (List.getElem_mem _)), drop_getD a z28 n hlt, drop_getD b z28 n (by omega), hga, hgb, sameS, wrap_nat (by omega), own_same_loop a b ha hb hs hl k (n + 1) (by omega) (by omega)]
   split <;> rfl
  ·rw [if_neg (by omega), List.drop_eq_nil_of_le (by omega)]; rfl
theorem own_same (a b : List RI) (ha : ∀ x ∈ a, NearS x) (hb : ∀ x ∈ b, NearS x) (hs : a.length ≤ 100000) (k : Nat) (hk : a.length < k) : store_Same.f k (a.map toI) (b.map toI) = some (eqS a b) := by
 rw [store_Same.f, item_Item_48.f, eqS, List.length_map, List.length_map]
 by_cases h : a.length = b.length
 ·rw [if_pos (by omega), if_pos h]
  have := own_same_loop a b ha hb hs h k 0 (by omega) (by omega)
  rw [List.drop_zero, List.drop_zero] at this
  show (item_Item_48.l0 k (a.map toI) (b.map toI) (a.length : Int) ((0 : Nat) : Int)).bind _ = _
  rw [this]; rfl
 ·rw [if_neg (by omega), if_neg h]; rfl
/-- Behind the loop that looks at the places. -/
theorem rights_loop (a b : List RI) (ha : a.length ≤ 20) (hb : b.length ≤ 9223372036854775807) : ∀ (d n : Nat), a.length - n = d → n ≤ a.length → (∀ i (hi : i < a.length), i < n → NearS a[i]) → ∀ k, 3000 + d < k → cenotaphlaw08_StoreRights.l0 k a b n = some true := by
 intro d
 induction d with
 | zero =>
  intro n hd hn hnear k hk
  obtain ⟨k, rfl⟩ : ∃ m, k = m + 1 := ⟨k - 1, by omega⟩
  have hna : ∀ x ∈ a, NearS x := by
   intro x hx
   obtain ⟨i, hi, e⟩ := List.mem_iff_getElem.mp hx
   exact e ▸ hnear i hi (by omega)
  obtain ⟨s, ⟨sk, so, sl⟩, es⟩ := fix_st b hb
  obtain ⟨t, ⟨tk, tt, tl⟩, et⟩ := fix_st a (by omega)
  rw [cenotaphlaw08_StoreRights.l0, if_neg (by omega), es k (by omega), Option.bind_some, told_ok k (by omega), Option.bind_some, if_pos rfl, to_ok a (by omega) k (by omega), Option.bind_some,
   own_right_all a (by omega) hna k (by omega), Option.bind_some, ref_right_all a (by omega) k (by omega), Option.bind_some, beq_self_eq_true, if_pos rfl, to_ok s (by omega) k (by omega), Option.bind_some,
   own_right_ok sk so (by omega) k (by omega), Option.bind_some, if_pos rfl, Option.bind_some, et k (by omega), Option.bind_some, to_ok t (by omega) k (by omega), Option.bind_some,
   own_same s t (fun x hx => (so x hx).near) (fun x hx => (tt x hx).near) (by omega) k (by omega), Option.bind_some, Option.bind_some, ref_same s t (by omega) k (by omega), Option.bind_some, beq_self_eq_true]
 | succ d ih =>
  intro n hd hn hnear k hk
  obtain ⟨k, rfl⟩ : ∃ m, k = m + 1 := ⟨k - 1, by omega⟩
  have hlt : n < a.length := by omega
  have hg : a.getD n z28 = a[n] := by simp [List.getD, hlt]
  have ht := told_ok k (by omega)
  rw [cenotaphlaw08_StoreRights.l0, if_pos (by omega), if_pos (by omega), rdR, hg]
  by_cases h1 : a[n].f3.f0 > 1099511627776
  ·rw [if_pos h1, ht, Option.bind_some]
  rw [if_neg h1]
  by_cases h2 : a[n].f3.f0 < -1099511627776
  ·rw [if_pos h2, ht, Option.bind_some]
  rw [if_neg h2]
  by_cases h3 : a[n].f3.f1 > 1099511627776
  ·rw [if_pos h3, ht, Option.bind_some]
  rw [if_neg h3]
  by_cases h4 : a[n].f3.f1 < -1099511627776
  ·rw [if_pos h4, ht, Option.bind_some]
  rw [if_neg h4, wrap_nat (by omega)]
  refine ih (n + 1) (by omega) (by omega) (fun i hi hin => ?_) k (by omega)
  by_cases e : i = n
  ·subst e; exact ⟨by omega, by omega⟩
  ·exact hnear i hi (by omega)
theorem StoreRights : cenotaphlaw08_StoreRights.Pure := by
 intro l0 l1 h0 _ h1 _
 have h0' : l0.length ≤ 9223372036854775807 := h0
 have h1' : l1.length ≤ 9223372036854775807 := h1
 refine ⟨4000, ?_⟩
 have e0 := mn_nat l0.length 20
 have e1 := mn_nat l1.length 20
 rw [cenotaphlaw08_StoreRights.f, show (20 : Int) = ((20 : Nat) : Int) from rfl, e0, e1, if_pos (by omega), if_pos (by omega), if_pos (by omega), if_pos (by omega), Int.toNat_natCast, Int.toNat_natCast]
 have hl0 : (l0.take (min l0.length 20)).length ≤ 20 := by rw [List.length_take]; omega
 have hl1 : (l1.take (min l1.length 20)).length ≤ 20 := by rw [List.length_take]; omega
 exact rights_loop _ _ hl0 (by omega) _ 0 rfl (by omega) (fun i hi hin => by omega) 4000 (by omega)
end Go.Proofs.Ytgdkgobplinelaa.Pure
