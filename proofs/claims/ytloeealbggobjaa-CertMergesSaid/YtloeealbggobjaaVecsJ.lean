import Derived.Test.YtloeealbggobjaaVecs1
import Derived.Test.YtloeealbggobjaaP8
/- What the program's Vecs come to, in plain words: the farther of each. -/
namespace Go.Proofs.Ytloeealbggobjaa.Pure
open Go.RowKit Go.Proofs.Ytloeealbggobjaa Go.Proofs.Ytloeealbggobjaa.P Go.Proofs.YtloeealbggobjaaW.PrintWords Go.Proofs.YtloeealbggobjaaW.PrintLast
set_option linter.unusedVariables false
set_option linter.unusedSimpArgs false
theorem getD_memA {l : List SA} {n : Nat} (h : n < l.length) : l.getD n z59 ∈ l := getD_mem h _
theorem PV.drop_ {α : Type} {s : AtS α} {l : List α} (h : PV s l) (n : Nat) : PV s (l.drop n) := ⟨List.Pairwise.sublist (List.drop_sublist n l) h.ks, fun x hx => h.pos x (List.mem_of_mem_drop hx)⟩
theorem vec_join_loop {l : List SA} (hl : OkV sA l) (hll : l.length < 1000000) (d : Nat) : ∀ (k n : Nat) (out : List SA), l.length - n = d → n ≤ l.length → PV sA out → out.length + d < 1000000 → d < k →
    vec_Join.l0 k out l (l.length : Int) (n : Int) = some (joinV sA sA out (l.drop n)) := by
  induction d with
  | zero =>
    intro k n out hd hn ho hlo hk
    obtain ⟨k, rfl⟩ : ∃ m, k = m + 1 := ⟨k - 1, by omega⟩
    simp only [vec_Join.l0]
    rw [if_neg (by omega), List.drop_eq_nil_of_le (by omega)]; rfl
  | succ d ih =>
    intro k n out hd hn ho hlo hk
    obtain ⟨k, rfl⟩ : ∃ m, k = m + 1 := ⟨k - 1, by omega⟩
    have hx := getD_memA (l := l) (n := n) (by omega)
    have h1 := hl.right _ hx
    have h2 := hl.pos _ hx
    have h3 := hl.le _ hx
    simp only [vec_Join.l0]
    rw [if_pos (by omega), if_pos (by omega), if_pos (by omega), rdA, drop_getD l z59 n (by omega)]
    generalize l.getD n z59 = x at h1 h2 h3 ⊢
    have hs : setV sA out x.f0 x.f1 = putV sA out (sA.id x) (max (ofV sA out (sA.id x)) (sA.n x)) := by
      unfold setV
      rw [if_pos ⟨h1, h2⟩]
      have h3' : x.f1 ≤ 1048576 := h3
      rw [show min x.f1 1048576 = x.f1 by omega]; rfl
    have hlen := putV_length (s := sA) out (sA.id x) (max (ofV sA out (sA.id x)) (sA.n x))
    rw [vec_set ho (by omega), Option.bind_some, wrap_nat (by omega), hs, joinV]
    exact ih k (n + 1) _ (by omega) (by omega) (putV_PV ho _ _) (by omega) (by omega)
theorem vec_join {a b : List SA} (ha : OkV sA a) (hb : OkV sA b) (h1 : a.length < 100000) (h2 : b.length < 100000) (k : Nat) (hk : b.length < k) :
    ∃ r, vec_Join.f k a b = some r ∧ OkV sA r ∧ (∀ i, ofV sA r i = max (ofV sA a i) (ofV sA b i)) ∧ r.length ≤ a.length + b.length := by
  obtain ⟨p, q, r⟩ := joinV_spec sA sA b a ha.toPV hb.toPV
  refine ⟨joinV sA sA a b, ?_, OkV.of_PV p (fun i hi => ?_) (fun i => ?_), q, r⟩
  · unfold vec_Join.f
    rw [cloneA a (by omega), Option.bind_some]
    have := vec_join_loop hb (by omega) b.length k 0 a (by omega) (by omega) ha.toPV (by omega) hk
    simpa using this
  · rw [q] at hi
    by_cases h : 0 < ofV sA a i
    · exact ha.right_of h
    · exact hb.right_of (by omega)
  · rw [q]; have := ha.le_of i; have := hb.le_of i; omega
end Go.Proofs.Ytloeealbggobjaa.Pure
