import Derived.Test.YtloeealbggobjaaIds3
import Derived.Test.YtloeealbggobjaaVecs1
import Derived.Test.YtloeealbggobjaaP0
import Derived.Test.YtloeealbggobjaaP4
import Derived.Test.YtloeealbggobjaaP3
import Derived.Test.YtloeealbggobjaaP7
/- What the reference's Vecs come to, in plain words. -/
namespace Go.Proofs.Ytloeealbggobjaa.Pure
open Go.RowKit Go.Proofs.Ytloeealbggobjaa Go.Proofs.Ytloeealbggobjaa.P Go.Proofs.YtloeealbggobjaaW.PrintWords Go.Proofs.YtloeealbggobjaaW.PrintLast
set_option linter.unusedVariables false
set_option linter.unusedSimpArgs false
abbrev SR := S56
def sR : AtS SR := ⟨fun x => x.f0, fun x => x.f1, fun a n => ⟨a, n⟩, fun _ _ => rfl, fun _ _ => rfl, fun _ => rfl⟩
theorem rdR (l : List SR) (n : Nat) : rd_T56 l (n : Int) = l.getD n z56 := rfl
theorem rdR_succ (l : List SR) (n : Nat) : rd_T56 l ((n : Int) + 1) = l.getD (n + 1) z56 := rfl
/-- Names that a comparison can hold. -/
def SmallR (l : List SR) : Prop := ∀ x ∈ l, x.f0.size ≤ 1000
theorem right_size {a : ByteArray} (h : rightB a = true) : a.size ≤ 6 := by
  rw [rightB_eq] at h
  have hs := size_list a
  cases e : a.data.toList with
  | nil => rw [e] at h; simp [idL] at h
  | cons c t =>
    rw [e] at h hs
    simp only [idL, Bool.and_eq_true, decide_eq_true_eq] at h
    simp only [List.length_cons] at hs
    omega
theorem small_of {l : List SR} (h : OkV sR l) : SmallR l := fun x hx => by have := right_size (h.right x hx); have e : sR.id x = x.f0 := rfl; rw [e] at this; omega
theorem ref_of_loop (l : List SR) (a : ByteArray) (hl : l.length < 1000000) (d : Nat) : ∀ (k n : Nat), l.length - n = d → n ≤ l.length → d < k →
    cenotaphref03_Of.l0 k l a (n : Int) = some (ofV sR (l.drop n) a) := by
  induction d with
  | zero =>
    intro k n hd hn hk
    obtain ⟨k, rfl⟩ : ∃ m, k = m + 1 := ⟨k - 1, by omega⟩
    simp only [cenotaphref03_Of.l0]
    rw [if_neg (by omega), List.drop_eq_nil_of_le (by omega), ofV_nil]
  | succ d ih =>
    intro k n hd hn hk
    obtain ⟨k, rfl⟩ : ∃ m, k = m + 1 := ⟨k - 1, by omega⟩
    simp only [cenotaphref03_Of.l0]
    rw [if_pos (by omega), if_pos (by omega), rdR, drop_getD l z56 n (by omega), ofV_cons]
    generalize l.getD n z56 = x
    by_cases h : x.f0 = a
    · rw [if_pos (toL_eq.mpr h), if_pos (show sR.id x = a from h)]; rfl
    · rw [if_neg (fun e => h (toL_eq.mp e)), if_neg (show ¬ sR.id x = a from h), wrap_nat (by omega), ih k (n + 1) (by omega) (by omega) (by omega)]
theorem ref_of (l : List SR) (a : ByteArray) (hl : l.length < 1000000) (k : Nat) (hk : l.length < k) : cenotaphref03_Of.f k l a = some (ofV sR l a) := ref_of_loop l a hl l.length k 0 (by omega) (by omega) hk
theorem ref_drop_loop (l : List SR) (a : ByteArray) (hl : l.length < 1000000) (d : Nat) : ∀ (k n : Nat) (acc : List SR), l.length - n = d → n ≤ l.length → acc.length + d < 1000000 → d < k →
    cenotaphref03_Drop.l0 k l a acc (n : Int) = some (acc ++ dropM sR.id a (l.drop n)) := by
  induction d with
  | zero =>
    intro k n acc hd hn ha hk
    obtain ⟨k, rfl⟩ : ∃ m, k = m + 1 := ⟨k - 1, by omega⟩
    simp only [cenotaphref03_Drop.l0]
    rw [if_neg (by omega), List.drop_eq_nil_of_le (by omega)]; simp [dropM]
  | succ d ih =>
    intro k n acc hd hn ha hk
    obtain ⟨k, rfl⟩ : ∃ m, k = m + 1 := ⟨k - 1, by omega⟩
    simp only [cenotaphref03_Drop.l0]
    rw [if_pos (by omega), if_pos (by omega), rdR, drop_getD l z56 n (by omega), wrap_nat (by omega)]
    generalize l.getD n z56 = x
    by_cases h : x.f0 = a
    · rw [if_pos (toL_eq.mpr h), ih k (n + 1) acc (by omega) (by omega) (by omega) (by omega)]
      unfold dropM
      rw [List.filter_cons_of_neg (by rw [decide_eq_true_eq]; exact fun e => e h)]
    · rw [if_neg (fun e => h (toL_eq.mp e)), if_pos (by omega), ih k (n + 1) _ (by omega) (by omega) (by simp; omega) (by omega)]
      unfold dropM
      rw [List.filter_cons_of_pos (by rw [decide_eq_true_eq]; exact h), List.append_assoc]; rfl
theorem ref_drop (l : List SR) (a : ByteArray) (hl : l.length < 100000) (k : Nat) (hk : l.length < k) : cenotaphref03_Drop.f k l a = some (dropM sR.id a l) := by
  have := ref_drop_loop l a (by omega) l.length k 0 [] (by omega) (by omega) (by simp; omega) hk
  simpa [cenotaphref03_Drop.f] using this
def gtR (u v : SR) : Bool := decide (ltB (sR.id v) (sR.id u))
theorem ref_sink (v : SR) (hv : v.f0.size ≤ 1000) : ∀ (p q : List SR), SmallR p → p.length + q.length < 1000000 → ∀ k, p.length + 2100 < k →
    cenotaphref03_put.l0 k (p.reverse ++ v :: q) (p.length : Int) = some (sinkR gtR v p q)
  | [], q, hs, hl, k, hk => by
    obtain ⟨k, rfl⟩ : ∃ m, k = m + 1 := ⟨k - 1, by omega⟩
    simp only [cenotaphref03_put.l0]
    rw [if_neg (by simp)]; rfl
  | u :: p, q, hs, hl, k, hk => by
    obtain ⟨k, rfl⟩ : ∃ m, k = m + 1 := ⟨k - 1, by omega⟩
    simp only [List.length_cons] at hl hk
    have hu := hs u (by simp)
    have hj : ((u :: p).length : Int) = (p.length : Int) + 1 := by simp
    have hL : ((u :: p).reverse ++ v :: q) = p.reverse ++ u :: v :: q := by simp
    have hlen : ((u :: p).reverse ++ v :: q).length = p.length + 2 + q.length := by simp; omega
    have hg0 : (p.reverse ++ u :: v :: q).getD p.length z56 = u := by simp [List.getD]
    have hg1 : (p.reverse ++ u :: v :: q).getD (p.length + 1) z56 = v := by simp [List.getD]
    have hsw := swap_at z56 p.reverse u v q
    rw [List.length_reverse, hg0, hg1] at hsw
    simp only [cenotaphref03_put.l0]
    rw [hj, if_pos (by omega), wrap_id (by omega) (by omega), Int.add_sub_cancel, if_pos (by omega), if_pos (by omega), if_pos (by omega), if_pos (by omega), hL, rdR_succ, rdR, hg0, hg1, ref_compare _ _ k (by omega) (by omega), Option.bind_some, Int.toNat_natCast, show ((p.length : Int) + 1).toNat = p.length + 1 by omega]
    have hcc : (Lib.compareBytes u.f0.data.toList v.f0.data.toList > 0) ↔ gtR u v = true := by
      unfold gtR; rw [decide_eq_true_eq]; exact gtB
    unfold sinkR
    by_cases hc : gtR u v = true
    · rw [if_pos (hcc.mpr hc), if_pos hc]
      have e : (⟨v.f0, v.f1⟩ : SR) = v := rfl
      have e2 : (⟨u.f0, u.f1⟩ : SR) = u := rfl
      rw [e, e2, hsw]
      exact ref_sink v hv p (u :: q) (fun x hx => hs x (by simp [hx])) (by simp; omega) k (by omega)
    · rw [if_neg (fun h => hc (hcc.mp h)), if_neg hc]
      simp
theorem ref_put {l : List SR} (hs : SmallR l) (hl : l.length < 10000) (a : ByteArray) (ha : a.size ≤ 1000) (m : Int) (k : Nat) (hk : 20000 < k) : cenotaphref03_put.f k l a m = some (putV sR l a m) := by
  unfold cenotaphref03_put.f putV
  have hdl := dropM_length (key := sR.id) a l
  rw [ref_drop l a (by omega) k (by omega), Option.bind_some]
  by_cases hm : m < 1
  · rw [if_pos hm, if_pos hm]
  · rw [if_neg hm, if_neg hm, if_pos (by omega), Option.bind_some]
    have e : wrap64 (((dropM sR.id a l ++ [(⟨a, m⟩ : SR)]).length : Int) - 1) = ((dropM sR.id a l).reverse.length : Int) := by
      rw [wrap_id (by rw [List.length_append, List.length_singleton]; omega) (by rw [List.length_append, List.length_singleton]; omega), List.length_append, List.length_singleton, List.length_reverse]; omega
    have := ref_sink ⟨a, m⟩ ha (dropM sR.id a l).reverse [] (fun x hx => hs x ((mem_dropM _ _ _).mp (by simpa using hx)).1) (by simp; omega) k (by simp; omega)
    rw [e]
    rw [List.reverse_reverse] at this
    exact this
instance : DecidableEq SR := fun x y => decidable_of_iff (x.f0 = y.f0 ∧ x.f1 = y.f1) ⟨fun h => sR.ext h.1 h.2, fun e => e ▸ ⟨rfl, rfl⟩⟩
theorem rt_ext {x y : SR} : (!((x.f0.toList == y.f0.toList)) || (!(x.f1 == y.f1))) = true ↔ x ≠ y := by
  rw [Bool.or_eq_true, Bool.not_eq_true', Bool.not_eq_true', beq_eq_false_iff_ne, beq_eq_false_iff_ne, ne_eq, toL_eq]
  cases x; cases y
  simp only [ne_eq, S56.mk.injEq]
  exact Classical.not_and_iff_not_or_not.symm
theorem ref_same_loop3 (a b : List SR) (hl : a.length = b.length) (hs : a.length < 1000000) (d : Nat) : ∀ (k n : Nat), a.length - n = d → n ≤ a.length → d < k →
    cenotaphref03_Same.l0 k a b (n : Int) = some (decide (a.drop n = b.drop n)) := by
  induction d with
  | zero =>
    intro k n hd hn hk
    obtain ⟨k, rfl⟩ : ∃ m, k = m + 1 := ⟨k - 1, by omega⟩
    simp only [cenotaphref03_Same.l0]
    rw [if_neg (by omega), List.drop_eq_nil_of_le (by omega), List.drop_eq_nil_of_le (by omega)]; simp
  | succ d ih =>
    intro k n hd hn hk
    obtain ⟨k, rfl⟩ : ∃ m, k = m + 1 := ⟨k - 1, by omega⟩
    simp only [cenotaphref03_Same.l0]
    rw [if_pos (by omega), if_pos (by omega), if_pos (by omega), rdR, rdR, drop_getD a z56 n (by omega), drop_getD b z56 n (by omega)]
    by_cases h : a.getD n z56 = b.getD n z56
    · rw [if_neg (fun e => rt_ext.mp e h), wrap_nat (by omega), ih k (n + 1) (by omega) (by omega) (by omega), h]
      congr 1
      rw [decide_eq_decide]; simp
    · rw [if_pos (rt_ext.mpr h)]
      congr 1
      symm
      rw [decide_eq_false_iff_not]
      intro e
      exact h (List.cons.inj e).1
theorem ref_same3 (a b : List SR) (hs : a.length < 1000000) (k : Nat) (hk : a.length < k) : cenotaphref03_Same.f k a b = some (decide (a = b)) := by
  unfold cenotaphref03_Same.f
  by_cases h : a.length = b.length
  · rw [if_pos (by omega)]
    have := ref_same_loop3 a b h hs a.length k 0 (by omega) (by omega) hk
    simpa using this
  · rw [if_neg (by omega)]
    congr 1
    symm
    rw [decide_eq_false_iff_not]
    intro e; subst e; exact h rfl
/-- A remainder, as Go tells it of a number without sign. -/
theorem urem3 {v : Int} (m : Int) (hm : 0 < m) (hm2 : m ≤ 1000000) : ∃ z : Int, Int.tmod (IntKind.u64.wrap v) m = z ∧ 0 ≤ z ∧ z < m := by
  have hw : 0 ≤ IntKind.u64.wrap v := by
    unfold IntKind.wrap
    have hb : IntKind.u64.bits = 64 := rfl
    have hs : IntKind.u64.signed = false := rfl
    simp only [hb, hs, Bool.false_and, Bool.false_eq_true, if_false]
    omega
  exact ⟨_, rfl, Int.tmod_nonneg m hw, Int.tmod_lt_of_pos _ hm⟩
theorem putV_okV {l : List SR} (h : OkV sR l) {a : ByteArray} (ha : rightB a = true) {m : Int} (hm : m ≤ 1048576) : OkV sR (putV sR l a m) := by
  refine OkV.of_PV (putV_PV h.toPV a m) (fun i hi => ?_) (fun i => ?_)
  · rw [ofV_put h.toPV] at hi
    by_cases e : i = a
    · rw [e]; exact ha
    · rw [if_neg e] at hi; exact h.right_of hi
  · rw [ofV_put h.toPV]
    have := h.le_of i
    split
    · split <;> omega
    · exact this
theorem fix_loop3 (l : List SR) (d : Nat) : ∀ (n k : Nat) (out : List SR), 12 - n = d → n ≤ 12 → n ≤ l.length → OkV sR out → out.length ≤ n → 2 * d + 30000 < k →
    ∃ r, cenotaphref03_Fix.l0 k l out (n : Int) = some r ∧ OkV sR r ∧ r.length ≤ 12 := by
  induction d with
  | zero =>
    intro n k out hd hn hnl h hl hk
    obtain ⟨k, rfl⟩ : ∃ m, k = m + 2 := ⟨k - 2, by omega⟩
    refine ⟨out, ?_, h, by omega⟩
    simp only [cenotaphref03_Fix.l0]
    have hdec : decide ((n : Int) < 12) = false := decide_eq_false (by omega)
    by_cases h1 : (n : Int) < (l.length : Int)
    · rw [if_pos h1, hdec]; simp only [cenotaphref03_Fix.j1]; rw [if_neg (by simp)]
    · rw [if_neg h1]; simp only [cenotaphref03_Fix.j1]; rw [if_neg (by simp)]
  | succ d ih =>
    intro n k out hd hn hnl h hl hk
    obtain ⟨k, rfl⟩ : ∃ m, k = m + 2 := ⟨k - 2, by omega⟩
    simp only [cenotaphref03_Fix.l0]
    have hdec : decide ((n : Int) < 12) = true := decide_eq_true (by omega)
    by_cases h1 : (n : Int) < (l.length : Int)
    · rw [if_pos h1, hdec]
      simp only [cenotaphref03_Fix.j1]
      obtain ⟨z, ez, z0, z1⟩ := urem3 (v := (rd_T56 l (n : Int)).f1) 1000 (by omega) (by omega)
      have hf := fixB_right (rd_T56 l (n : Int)).f0
      have hsz := right_size hf
      have hlen := putV_length (s := sR) out (fixB (rd_T56 l (n : Int)).f0) (1 + z)
      rw [if_pos trivial, if_pos (by omega), if_pos h1, ref_fix _ _ (by omega), Option.bind_some, ez, wrap_id (i := z) (by omega) (by omega), wrap_id (i := 1 + z) (by omega) (by omega), ref_put (small_of h) (by omega) _ (by omega) _ k (by omega), Option.bind_some, wrap_nat (by omega)]
      exact ih (n + 1) k _ (by omega) (by omega) (by omega) (putV_okV h hf (by omega)) (by omega) (by omega)
    · rw [if_neg h1]; simp only [cenotaphref03_Fix.j1]; rw [if_neg (by simp)]
      exact ⟨out, rfl, h, by omega⟩
theorem ref_fix3 (l : List SR) (k : Nat) (hk : 40000 < k) : ∃ r, cenotaphref03_Fix.f k l = some r ∧ OkV sR r ∧ r.length ≤ 12 := by
  unfold cenotaphref03_Fix.f
  exact fix_loop3 l 12 0 k [] (by omega) (by omega) (by omega) OkV.nil (by simp) (by omega)
end Go.Proofs.Ytloeealbggobjaa.Pure
