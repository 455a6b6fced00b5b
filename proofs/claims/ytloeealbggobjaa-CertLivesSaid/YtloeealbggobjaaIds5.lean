import Derived.Test.YtloeealbggobjaaIds2
import Derived.Test.YtloeealbggobjaaOrdB
import Derived.Test.YtloeealbggobjaaP12
/- The reference's lists of names: what is in, what both have, whether two are one. -/
namespace Go.Proofs.Ytloeealbggobjaa.Pure
open Go.RowKit Go.Proofs.Ytloeealbggobjaa Go.Proofs.Ytloeealbggobjaa.P Go.Proofs.YtloeealbggobjaaW.PrintWords Go.Proofs.YtloeealbggobjaaW.PrintLast
set_option linter.unusedVariables false
set_option linter.unusedSimpArgs false
theorem rd_nat {α : Type} (d : α) (l : List α) (n : Nat) : rdOf d l (n : Int) = l.getD n d := by
  unfold rdOf; rw [Int.toNat_natCast]
theorem rd_succ {α : Type} (d : α) (l : List α) (n : Nat) : rdOf d l ((n : Int) + 1) = l.getD (n + 1) d := rd_nat d l (n + 1)
/-- Sizes that the walk can hold. -/
def SmallB (l : List ByteArray) : Prop := ∀ x ∈ l, x.size ≤ 9223372036854775807
theorem ref_compare_t (a b : ByteArray) (ha : a.size ≤ 9223372036854775807) : Tells (fun k => cenotaphref01_Compare.f k a b) (cmpB a b) :=
  ⟨2 * a.size + 2, fun k hk => ref_compare a b k ha hk⟩
theorem toList_eq {a b : ByteArray} : a.toList = b.toList ↔ a = b := by
  rw [Lib.toList_data, Lib.toList_data]
  exact ⟨fun h => bytes_ext h, fun h => by rw [h]⟩
theorem ref_has_loop (l : List ByteArray) (a : ByteArray) (hl : l.length < 8796093022208) (d : Nat) : ∀ (k n : Nat), l.length - n = d → n ≤ l.length → d < k →
    ∃ b, cenotaphref01_Has.l0 k l a (n : Int) = some b ∧ (b = true ↔ a ∈ l.drop n) := by
  induction d with
  | zero =>
    intro k n hd hn hk
    obtain ⟨k, rfl⟩ : ∃ m, k = m + 1 := ⟨k - 1, by omega⟩
    simp only [cenotaphref01_Has.l0]; rw [if_neg (by omega), List.drop_eq_nil_of_le (by omega)]
    exact ⟨false, rfl, by simp⟩
  | succ d ih =>
    intro k n hd hn hk
    obtain ⟨k, rfl⟩ : ∃ m, k = m + 1 := ⟨k - 1, by omega⟩
    have hlt : n < l.length := by omega
    simp only [cenotaphref01_Has.l0]; rw [if_pos (by omega), if_pos (by omega), rd_nat, drop_getD l ByteArray.empty n hlt]
    by_cases h : l.getD n ByteArray.empty = a
    · rw [if_pos (toList_eq.mpr h), h]; exact ⟨true, rfl, by simp⟩
    · rw [if_neg (fun e => h (toList_eq.mp e)), wrap_id (by omega) (by omega)]
      obtain ⟨b, e, hb⟩ := ih k (n + 1) (by omega) (by omega) (by omega)
      refine ⟨b, e, ?_⟩
      rw [hb, List.mem_cons]
      exact ⟨Or.inr, fun e => e.resolve_left fun e => h e.symm⟩
theorem ref_has (l : List ByteArray) (a : ByteArray) (hl : l.length < 8796093022208) (k : Nat) (hk : l.length < k) : ∃ b, cenotaphref01_Has.f k l a = some b ∧ (b = true ↔ a ∈ l) := by
  obtain ⟨b, e, h⟩ := ref_has_loop l a hl l.length k 0 (by omega) (by omega) hk
  exact ⟨b, e, by simpa using h⟩
theorem ref_same_loop (l : List ByteArray) (hl : l.length < 8796093022208) (d : Nat) : ∀ (k n : Nat), l.length - n = d → n ≤ l.length → d < k → cenotaphref01_Same.l0 k l l (n : Int) = some true := by
  induction d with
  | zero =>
    intro k n hd hn hk
    obtain ⟨k, rfl⟩ : ∃ m, k = m + 1 := ⟨k - 1, by omega⟩
    simp only [cenotaphref01_Same.l0]; rw [if_neg (by omega)]
  | succ d ih =>
    intro k n hd hn hk
    obtain ⟨k, rfl⟩ : ∃ m, k = m + 1 := ⟨k - 1, by omega⟩
    simp only [cenotaphref01_Same.l0]; rw [if_pos (by omega), if_pos (by omega), if_pos (by omega), if_pos trivial, wrap_id (by omega) (by omega)]
    exact ih k (n + 1) (by omega) (by omega) (by omega)
theorem ref_same (l : List ByteArray) (hl : l.length < 8796093022208) (k : Nat) (hk : l.length < k) : cenotaphref01_Same.f k l l = some true := by
  unfold cenotaphref01_Same.f
  rw [if_pos rfl]
  exact ref_same_loop l hl l.length k 0 (by omega) (by omega) hk
def gtb (u v : ByteArray) : Bool := decide (cmpB u v > 0)
theorem ref_union_sink (x6 : List ByteArray) (x7 : Int) (r : List ByteArray) (v : ByteArray) : ∀ (p q : List ByteArray), SmallB p → p.length + q.length < 8796093022208 →
    Tells (fun k => cenotaphref01_Union.l0 k (sinkR gtb v p q) x6 (wrap64 (x7 + 1))) r →
    Tells (fun k => cenotaphref01_Union.l1 k (p.reverse ++ v :: q) x6 x7 (p.length : Int)) r
  | [], q, hs, hl, ⟨k0, h⟩ => by
    refine ⟨k0 + 1, fun k hk => ?_⟩
    obtain ⟨k, rfl⟩ : ∃ m, k = m + 1 := ⟨k - 1, by omega⟩
    simp only [cenotaphref01_Union.l1]
    rw [if_neg (by simp)]
    exact h k (by omega)
  | u :: p, q, hs, hl, ht => by
    simp only [List.length_cons] at hl
    obtain ⟨k1, h1⟩ := ref_compare_t u v (hs u (by simp))
    have hj : ((u :: p).length : Int) = (p.length : Int) + 1 := by simp
    have hL : ((u :: p).reverse ++ v :: q) = p.reverse ++ u :: v :: q := by simp
    have hlen : ((u :: p).reverse ++ v :: q).length = p.length + 2 + q.length := by simp; omega
    have hg0 : (p.reverse ++ u :: v :: q).getD p.length ByteArray.empty = u := by simp [List.getD]
    have hg1 : (p.reverse ++ u :: v :: q).getD (p.length + 1) ByteArray.empty = v := by simp [List.getD]
    have hsw := swap_at ByteArray.empty p.reverse u v q
    rw [List.length_reverse, hg0, hg1] at hsw
    have step : ∀ k, cenotaphref01_Union.l1 (k + 1) ((u :: p).reverse ++ v :: q) x6 x7 ((u :: p).length : Int) = ((cenotaphref01_Compare.f k u v).bind fun t => if t > 0 then cenotaphref01_Union.l1 k (p.reverse ++ v :: u :: q) x6 x7 (p.length : Int) else cenotaphref01_Union.l0 k ((u :: p).reverse ++ v :: q) x6 (wrap64 (x7 + 1))) := by
      intro k
      simp only [cenotaphref01_Union.l1]
      rw [hj, if_pos (by omega), wrap_id (by omega) (by omega), Int.add_sub_cancel, if_pos (by omega), if_pos (by omega), if_pos (by omega), if_pos (by omega), hL, rd_succ, rd_nat, hg0, hg1, Int.toNat_natCast, show ((p.length : Int) + 1).toNat = p.length + 1 by omega, hsw]
    by_cases hc : cmpB u v > 0
    · have hgt : gtb u v = true := decide_eq_true hc
      unfold sinkR at ht
      rw [if_pos hgt] at ht
      obtain ⟨k2, h2⟩ := ref_union_sink x6 x7 r v p (u :: q) (fun x hx => hs x (by simp [hx])) (by simp; omega) ht
      refine ⟨k1 + k2 + 1, fun k hk => ?_⟩
      obtain ⟨k, rfl⟩ : ∃ m, k = m + 1 := ⟨k - 1, by omega⟩
      simp only [step, h1 k (by omega), Option.bind_some]
      rw [if_pos hc]
      exact h2 k (by omega)
    · have hgt : ¬ gtb u v = true := fun e => hc (of_decide_eq_true e)
      unfold sinkR at ht
      rw [if_neg hgt] at ht
      obtain ⟨k2, h2⟩ := ht
      refine ⟨k1 + k2 + 1, fun k hk => ?_⟩
      obtain ⟨k, rfl⟩ : ∃ m, k = m + 1 := ⟨k - 1, by omega⟩
      simp only [step, h1 k (by omega), Option.bind_some]
      rw [if_neg hc]
      exact h2 k (by omega)
theorem sinkB_sorted (v : ByteArray) (l : List ByteArray) (hn : v ∉ l) (hs : l.Pairwise ltB) : (sink gtb v l).Pairwise ltB :=
  sink_sorted toB v l (fun u _ => by unfold gtb; rw [decide_eq_true_eq]; exact gtB) hn hs
theorem ref_union_loop (x6 : List ByteArray) (h6 : SmallB x6) (d : Nat) : ∀ (n : Nat) (x5 : List ByteArray), x6.length - n = d → n ≤ x6.length → SmallB x5 → x5.Pairwise ltB → x6.length < 8796093022208 → x5.length + d < 8796093022208 →
    ∃ r : List ByteArray, Tells (fun k => cenotaphref01_Union.l0 k x5 x6 (n : Int)) r ∧ r.Pairwise ltB ∧ ∀ x, x ∈ r ↔ x ∈ x5 ∨ x ∈ x6.drop n := by
  induction d with
  | zero =>
    intro n x5 hd hn hs hp hl1 hl2
    refine ⟨x5, ⟨1, fun k hk => ?_⟩, hp, fun x => by rw [List.drop_eq_nil_of_le (by omega)]; simp⟩
    obtain ⟨k, rfl⟩ : ∃ m, k = m + 1 := ⟨k - 1, by omega⟩
    simp only [cenotaphref01_Union.l0]; rw [if_neg (by omega)]
  | succ d ih =>
    intro n x5 hd hn hs hp hl1 hl2
    have hlt : n < x6.length := by omega
    generalize hv : x6.getD n ByteArray.empty = v
    have hvm : v ∈ x6 := hv ▸ getD_mem hlt _
    have hdrop := drop_getD x6 ByteArray.empty n hlt
    rw [hv] at hdrop
    have hcast : wrap64 ((n : Int) + 1) = ((n + 1 : Nat) : Int) := by rw [wrap_id (by omega) (by omega)]; rfl
    by_cases hm : v ∈ x5
    · obtain ⟨r, ⟨k1, h1⟩, h2, h3⟩ := ih (n + 1) x5 (by omega) (by omega) hs hp hl1 (by omega)
      refine ⟨r, ⟨k1 + x5.length + 2, fun k hk => ?_⟩, h2, fun x => ?_⟩
      · obtain ⟨k, rfl⟩ : ∃ m, k = m + 1 := ⟨k - 1, by omega⟩
        obtain ⟨b, hb, hb2⟩ := ref_has x5 v (by omega) k (by omega)
        simp only [cenotaphref01_Union.l0]
        rw [if_pos (by omega), if_pos (by omega), rd_nat, hv, hb, Option.bind_some, if_pos (hb2.mpr hm), hcast]
        exact h1 k (by omega)
      · rw [h3, hdrop, List.mem_cons]
        constructor
        · rintro (h | h)
          · exact Or.inl h
          · exact Or.inr (Or.inr h)
        · rintro (h | h | h)
          · exact Or.inl h
          · subst h; exact Or.inl hm
          · exact Or.inr h
    · have hsm : SmallB (sink gtb v x5) := fun x hx => by
        rcases mem_sink.mp hx with e | e
        · subst e; exact h6 _ hvm
        · exact hs x e
      obtain ⟨r, ht, h2, h3⟩ := ih (n + 1) (sink gtb v x5) (by omega) (by omega) hsm (sinkB_sorted v x5 hm hp) hl1 (by rw [sink_length]; omega)
      have hk := ref_union_sink x6 (n : Int) r v x5.reverse [] (fun x hx => hs x (by simpa using hx)) (by simp; omega) (by rw [hcast]; exact ht)
      obtain ⟨k1, h1⟩ := hk
      rw [List.reverse_reverse, List.length_reverse] at h1
      refine ⟨r, ⟨k1 + x5.length + 2, fun k hk => ?_⟩, h2, fun x => ?_⟩
      · obtain ⟨k, rfl⟩ : ∃ m, k = m + 1 := ⟨k - 1, by omega⟩
        obtain ⟨b, hb, hb2⟩ := ref_has x5 v (by omega) k (by omega)
        simp only [cenotaphref01_Union.l0]
        rw [if_pos (by omega), if_pos (by omega), rd_nat, hv, hb, Option.bind_some, if_neg (fun e => hm (hb2.mp e)), if_pos (by omega), Option.bind_some]
        have e : wrap64 (((x5 ++ [v]).length : Int) - 1) = (x5.length : Int) := by
          rw [List.length_append, List.length_singleton, wrap_id (by omega) (by omega)]; omega
        rw [e]
        exact h1 k (by omega)
      · rw [h3, hdrop, mem_sink, List.mem_cons]
        constructor
        · rintro ((h | h) | h)
          · exact Or.inr (Or.inl h)
          · exact Or.inl h
          · exact Or.inr (Or.inr h)
        · rintro (h | h | h)
          · exact Or.inl (Or.inr h)
          · exact Or.inl (Or.inl h)
          · exact Or.inr h
theorem ref_union (a b : List ByteArray) (ha : SmallB a) (hb : SmallB b) (hl : (a.length + b.length) * 2 < 8796093022208) : Tells (fun k => cenotaphref01_Union.f k a b) (unionB (a ++ b)) := by
  obtain ⟨r, ⟨k0, h1⟩, h2, h3⟩ := ref_union_loop (a ++ b) (fun x hx => by rcases List.mem_append.mp hx with e | e; exact ha x e; exact hb x e) (a ++ b).length 0 [] (by omega) (by omega) (by simp [SmallB]) List.Pairwise.nil (by simp; omega) (by simp; omega)
  have e : r = unionB (a ++ b) := ssort_unique toB h2 (unionB_sorted _) fun x => by rw [h3, mem_unionB]; simp
  subst e
  refine ⟨k0, fun k hk => ?_⟩
  unfold cenotaphref01_Union.f
  simp only [Option.bind_some, List.nil_append, List.length_nil]
  rw [if_pos (by omega), if_pos (by omega)]
  exact h1 k hk
end Go.Proofs.Ytloeealbggobjaa.Pure
