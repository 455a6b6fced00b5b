/- SpanOrders: numbers that are added in whatever order make the same Span, in which there are just these. No condition beyond the statement's own. -/
import Derived.Test.YtejoofeigeoboaaSpans4
import Derived.Test.YtejoofeigeoboaaP10
namespace Go.Proofs.Ytejoofeigeoboaa.Pure
open Go.RowKit Go.Proofs.Ytejoofeigeoboaa Go.Proofs.Ytejoofeigeoboaa.P Go.Proofs.YtejoofeigeoboaaW.PrintWords Go.Proofs.YtejoofeigeoboaaW.PrintLast
set_option linter.unusedVariables false
theorem l5_ok (own : List Int) (hown : own.length ≤ 60) (u : Int) (e : List Int) (h : OkS u e) (hl : e.length ≤ 60) (hmem : ∀ m, memS u e m ↔ m ∈ own) (x15 x16 u2 : Int) (e2 : List Int) (d : Nat) :
    ∀ (n k : Nat) (b : Bool), own.length - n = d → n ≤ own.length → (b = true ↔ x16 ∈ own.take n) → d + 200 < k →
      ∃ k', k - d - 1 ≤ k' ∧ cenotaphlaw02_SpanOrders.l5 k own x15 x16 b (n : Int) u e u2 e2 = cenotaphlaw02_SpanOrders.l4 k' own (if memS u e x16 then wrap64 (x15 + 1) else x15) (wrap64 (x16 + 1)) u e u2 e2 := by
  induction d with
  | zero =>
    intro n k b hd hn hb hk
    obtain ⟨k, rfl⟩ : ∃ m, k = m + 1 := ⟨k - 1, by omega⟩
    refine ⟨k, by omega, ?_⟩
    rw [List.take_of_length_le (by omega), ← hmem] at hb
    simp only [cenotaphlaw02_SpanOrders.l5]
    rw [if_neg (by omega), span_has u e x16 h (by omega) k (by omega)]
    by_cases hm : memS u e x16
    · have hbt := hb.mpr hm
      subst hbt
      rw [if_pos rfl, Option.bind_some, decide_eq_true hm, if_neg (by simp), if_pos hm]
    · have hbf : b = false := by rw [← Bool.not_eq_true]; exact fun x => hm (hb.mp x)
      subst hbf
      rw [if_neg (by simp), Option.bind_some, decide_eq_false hm, if_neg (by simp), if_neg hm]
  | succ d ih =>
    intro n k b hd hn hb hk
    obtain ⟨k, rfl⟩ : ∃ m, k = m + 1 := ⟨k - 1, by omega⟩
    have ht := take_succ_getD own 0 n (by omega)
    simp only [cenotaphlaw02_SpanOrders.l5]
    rw [if_pos (by omega), wrap_nat (by omega)]
    cases b with
    | true =>
      rw [if_pos rfl]
      obtain ⟨k', h1, h2⟩ := ih (n + 1) k true (by omega) (by omega) (by rw [← ht, List.mem_append]; exact ⟨fun _ => Or.inl (hb.mp rfl), fun _ => rfl⟩) (by omega)
      exact ⟨k', by omega, h2⟩
    | false =>
      rw [if_neg (by simp), if_pos (by omega), rd_int]
      obtain ⟨k', h1, h2⟩ := ih (n + 1) k (own.getD n 0 == x16) (by omega) (by omega) (by
        rw [← ht, List.mem_append, List.mem_singleton, beq_iff_eq]
        exact ⟨fun x => Or.inr x.symm, fun x => x.elim (fun y => absurd (hb.mpr y) (by simp)) (fun y => y.symm)⟩) (by omega)
      exact ⟨k', by omega, h2⟩
theorem l4_ok (own : List Int) (hown : own.length ≤ 60) (u : Int) (e : List Int) (h : OkS u e) (hl : e.length ≤ 60) (hmem : ∀ m, memS u e m ↔ m ∈ own) (hall : ∀ m, memS u e m → m ≤ 50) (d : Nat) :
    ∀ (n k : Nat), 50 - n = d → n ≤ 50 → d * 100 + 1000 < k → cenotaphlaw02_SpanOrders.l4 k own (cntS u e n) ((n : Int) + 1) u e u e = some true := by
  have hcr : ∀ n : Nat, 0 ≤ cntS u e n ∧ cntS u e n ≤ n := by
    intro n
    induction n with
    | zero => rw [cntS_zero h]; omega
    | succ n ih => rw [cntS_succ h]; split <;> omega
  induction d with
  | zero =>
    intro n k hd hn hk
    obtain ⟨k, rfl⟩ : ∃ m, k = m + 1 := ⟨k - 1, by omega⟩
    have : n = 50 := by omega
    subst this
    simp only [cenotaphlaw02_SpanOrders.l4]
    rw [if_neg (by omega), told_ok _ (by omega), Option.bind_some, if_pos rfl, span_same u u e e (by omega) k (by omega), Option.bind_some, if_pos (by simp), span_count u e h (by omega), Option.bind_some, cntS_all h 50 hall, if_pos rfl, span_right u e (by omega) k (by omega), Option.bind_some, rightS_ok h (by omega)]
  | succ d ih =>
    intro n k hd hn hk
    obtain ⟨k, rfl⟩ : ∃ m, k = m + 1 := ⟨k - 1, by omega⟩
    have hc := hcr n
    simp only [cenotaphlaw02_SpanOrders.l4]
    rw [if_pos (by omega)]
    obtain ⟨k', h1, h2⟩ := l5_ok own hown u e h hl hmem (cntS u e n) ((n : Int) + 1) u e own.length 0 k false (by omega) (by omega) (by simp) (by omega)
    refine (show _ = _ from h2).trans ?_
    have ih' := ih (n + 1) k' (by omega) (by omega) (by omega)
    have e1 : ((n + 1 : Nat) : Int) = (n : Int) + 1 := by omega
    rw [cntS_succ h, e1] at ih'
    rw [wrap_id (i := (n : Int) + 1 + 1) (by omega) (by omega)]
    by_cases hm : memS u e ((n : Int) + 1)
    · rw [if_pos hm] at ih' ⊢
      rw [wrap_id (by omega) (by omega)]; exact ih'
    · rw [if_neg hm] at ih' ⊢
      rw [Int.add_zero] at ih'; exact ih'
theorem l3_ok (own order : List Int) (hown : own.length ≤ 60) (ho : order.length ≤ 60) (hin : ∀ m, m ∈ order ↔ m ∈ own) (hr : ∀ m ∈ own, 1 ≤ m ∧ m ≤ 50) (u : Int) (e : List Int) (h : OkS u e) (hl : e.length ≤ 60) (hmem : ∀ m, memS u e m ↔ m ∈ own) (d : Nat) :
    ∀ (n k : Nat) (u2 : Int) (e2 : List Int), order.length - n = d → n ≤ order.length → OkS u2 e2 → e2.length ≤ n → (∀ m, memS u2 e2 m ↔ m ∈ order.take n) → d + 10000 < k → cenotaphlaw02_SpanOrders.l3 k own order (n : Int) u e u2 e2 = some true := by
  induction d with
  | zero =>
    intro n k u2 e2 hd hn h2 hl2 hm2 hk
    obtain ⟨k, rfl⟩ : ∃ m, k = m + 1 := ⟨k - 1, by omega⟩
    simp only [cenotaphlaw02_SpanOrders.l3]
    rw [if_neg (by omega)]
    rw [List.take_of_length_le (by omega)] at hm2
    obtain ⟨e1, e3⟩ := okS_unique h2 h fun m => (hm2 m).trans ((hin m).trans (hmem m).symm)
    subst e1; subst e3
    have := l4_ok own hown u2 e2 h2 (by omega) hmem (fun m hm => (hr m ((hmem m).mp hm)).2) 50 0 k (by omega) (by omega) (by omega)
    rw [cntS_zero h2] at this
    exact this
  | succ d ih =>
    intro n k u2 e2 hd hn h2 hl2 hm2 hk
    obtain ⟨k, rfl⟩ : ∃ m, k = m + 1 := ⟨k - 1, by omega⟩
    have hx := hr _ ((hin _).mp (getD_memZ (l := order) (i := n) (by omega)))
    obtain ⟨a, b, c⟩ := addS_ok h2 (order.getD n 0)
    simp only [cenotaphlaw02_SpanOrders.l3]
    rw [if_pos (by omega), if_pos (by omega), rd_int, span_add u2 e2 _ h2 (by omega) k (by omega), Option.bind_some, wrap_nat (by omega)]
    refine ih (n + 1) k _ _ (by omega) (by omega) a (by omega) (fun m => (b m).trans ?_) (by omega)
    rw [hm2, ← take_succ_getD order 0 n (by omega), List.mem_append, List.mem_singleton]
    constructor
    · rintro (x | x)
      · exact Or.inl x
      · exact Or.inr x.1
    · rintro (x | x)
      · exact Or.inl x
      · exact Or.inr ⟨x, hx.1, by have := hx.2; omega⟩
theorem l2_ok (l1 : List Int) (hw : ∀ x ∈ l1, (Lit.int .i64 x).wf = true) (own : List Int) (hown : own.length ≤ 60) (hr : ∀ m ∈ own, 1 ≤ m ∧ m ≤ 50) (u : Int) (e : List Int) (h : OkS u e) (hl : e.length ≤ 60) (hmem : ∀ m, memS u e m ↔ m ∈ own) (d : Nat) :
    ∀ (n k : Nat) (order : List Int), 60 - n = d → n ≤ 60 → order.length ≤ 60 → (∀ m, m ∈ order ↔ m ∈ own) → d + 20000 < k → cenotaphlaw02_SpanOrders.l2 k l1 own order (n : Int) u e 0 = some true := by
  have done : ∀ (k : Nat) (order : List Int), order.length ≤ 60 → (∀ m, m ∈ order ↔ m ∈ own) → 15000 < k → cenotaphlaw02_SpanOrders.j3 k own order u e 0 = some true := by
    intro k order ho hin hk
    obtain ⟨k, rfl⟩ : ∃ m, k = m + 1 := ⟨k - 1, by omega⟩
    simp only [cenotaphlaw02_SpanOrders.j3]
    exact l3_ok own order hown ho hin hr u e h hl hmem order.length 0 k 0 [] (by omega) (by omega) (OkS.nil (by omega) (by omega)) (by simp) (fun m => by unfold memS; simp; omega) (by omega)
  induction d with
  | zero =>
    intro n k order hd hn ho hin hk
    obtain ⟨k, rfl⟩ : ∃ m, k = m + 1 := ⟨k - 1, by omega⟩
    simp only [cenotaphlaw02_SpanOrders.l2]
    have hj := done k order ho hin (by omega)
    by_cases h1 : (n : Int) < (l1.length : Int)
    · rw [if_pos h1]
      by_cases h2 : (order.length : Int) > 1
      · rw [if_pos h2, if_neg (by omega)]; exact hj
      · rw [if_neg h2]; exact hj
    · rw [if_neg h1]; exact hj
  | succ d ih =>
    intro n k order hd hn ho hin hk
    obtain ⟨k, rfl⟩ : ∃ m, k = m + 1 := ⟨k - 1, by omega⟩
    simp only [cenotaphlaw02_SpanOrders.l2]
    have hj := done k order ho hin (by omega)
    by_cases h1 : (n : Int) < (l1.length : Int)
    · rw [if_pos h1]
      by_cases h2 : (order.length : Int) > 1
      · obtain ⟨w0, w1⟩ := wf_int (hw _ (getD_memZ (show n < l1.length by omega)))
        have hu : IntKind.u64.wrap (order.length : Int) = (order.length : Int) := u64_id (by omega) (by omega)
        obtain ⟨z, ez, z0, z1⟩ := urem w0 w1 (order.length : Int) (by omega) (by omega)
        have hq0 := Int.tmod_nonneg (order.length : Int) (show (0 : Int) ≤ (n : Int) by omega)
        have hq1 := Int.tmod_lt_of_pos (n : Int) (show (0 : Int) < (order.length : Int) by omega)
        rw [if_pos h2, if_pos (by omega), if_neg (by omega), if_pos (by omega), hu, if_neg (by omega), rd_int, ez, wrap_id (i := z) (by omega) (by omega), if_pos z0, if_pos z1, if_pos hq0, if_pos hq1, wrap_nat (by omega)]
        generalize Int.tmod (n : Int) (order.length : Int) = q at hq0 hq1 ⊢
        obtain ⟨i, rfl⟩ : ∃ i : Nat, q = (i : Int) := ⟨q.toNat, by omega⟩
        obtain ⟨j, rfl⟩ : ∃ j : Nat, z = (j : Int) := ⟨z.toNat, by omega⟩
        have hi : i < order.length := by omega
        have hj' : j < order.length := by omega
        rw [rd_int, rd_int, Int.toNat_natCast, Int.toNat_natCast]
        have gi : order.getD i 0 = order[i] := by simp [List.getD, List.getElem?_eq_getElem hi]
        have gj : order.getD j 0 = order[j] := by simp [List.getD, List.getElem?_eq_getElem hj']
        rw [gi, gj]
        have hp := List.set_set_perm (i := i) (j := j) hi hj'
        exact ih (n + 1) k _ (by omega) (by omega) (by simp; omega) (fun m => hp.mem_iff.trans (hin m)) (by omega)
      · rw [if_neg h2]; exact hj
    · rw [if_neg h1]; exact hj
theorem l1_ok (l1 : List Int) (hw : ∀ x ∈ l1, (Lit.int .i64 x).wf = true) (own : List Int) (hown : own.length ≤ 60) (hr : ∀ m ∈ own, 1 ≤ m ∧ m ≤ 50) (d : Nat) :
    ∀ (n k : Nat) (u : Int) (e : List Int), own.length - n = d → n ≤ own.length → OkS u e → e.length ≤ n → (∀ m, memS u e m ↔ m ∈ own.take n) → d + 30000 < k → cenotaphlaw02_SpanOrders.l1 k l1 own (n : Int) u e 0 = some true := by
  induction d with
  | zero =>
    intro n k u e hd hn h hl hm hk
    obtain ⟨k, rfl⟩ : ∃ m, k = m + 1 := ⟨k - 1, by omega⟩
    simp only [cenotaphlaw02_SpanOrders.l1]
    rw [if_neg (by omega)]
    simp only [Option.bind_some, List.length_nil, List.nil_append]
    rw [if_pos (by omega)]
    rw [List.take_of_length_le (by omega)] at hm
    exact l2_ok l1 hw own hown hr u e h (by omega) hm 60 0 k own (by omega) (by omega) hown (fun _ => Iff.rfl) (by omega)
  | succ d ih =>
    intro n k u e hd hn h hl hm hk
    obtain ⟨k, rfl⟩ : ∃ m, k = m + 1 := ⟨k - 1, by omega⟩
    have hx := hr _ (getD_memZ (l := own) (i := n) (by omega))
    obtain ⟨a, b, c⟩ := addS_ok h (own.getD n 0)
    simp only [cenotaphlaw02_SpanOrders.l1]
    rw [if_pos (by omega), if_pos (by omega), rd_int, span_add u e _ h (by omega) k (by omega), Option.bind_some, wrap_nat (by omega)]
    refine ih (n + 1) k _ _ (by omega) (by omega) a (by omega) (fun m => (b m).trans ?_) (by omega)
    rw [hm, ← take_succ_getD own 0 n (by omega), List.mem_append, List.mem_singleton]
    constructor
    · rintro (x | x)
      · exact Or.inl x
      · exact Or.inr x.1
    · rintro (x | x)
      · exact Or.inl x
      · exact Or.inr ⟨x, hx.1, by have := hx.2; omega⟩
theorem l0_ok (l : List Int) (hl : l.length ≤ 60) (hwl : ∀ x ∈ l, (Lit.int .i64 x).wf = true) (l1 : List Int) (hw : ∀ x ∈ l1, (Lit.int .i64 x).wf = true) (d : Nat) :
    ∀ (n k : Nat) (own : List Int), l.length - n = d → n ≤ l.length → own.length = n → (∀ m ∈ own, 1 ≤ m ∧ m ≤ 50) → d + 40000 < k → cenotaphlaw02_SpanOrders.l0 k l l1 own (n : Int) 0 0 = some true := by
  induction d with
  | zero =>
    intro n k own hd hn ho hr hk
    obtain ⟨k, rfl⟩ : ∃ m, k = m + 1 := ⟨k - 1, by omega⟩
    simp only [cenotaphlaw02_SpanOrders.l0]
    rw [if_neg (by omega)]
    exact l1_ok l1 hw own (by omega) hr own.length 0 k 0 [] (by omega) (by omega) (OkS.nil (by omega) (by omega)) (by simp) (fun m => by unfold memS; simp; omega) (by omega)
  | succ d ih =>
    intro n k own hd hn ho hr hk
    obtain ⟨k, rfl⟩ : ∃ m, k = m + 1 := ⟨k - 1, by omega⟩
    obtain ⟨w0, w1⟩ := wf_int (hwl _ (getD_memZ (show n < l.length by omega)))
    obtain ⟨z, ez, z0, z1⟩ := urem w0 w1 50 (by omega) (by omega)
    simp only [cenotaphlaw02_SpanOrders.l0]
    rw [if_pos (by omega), if_pos (by omega), if_pos (by omega), rd_int, ez, wrap_id (i := z) (by omega) (by omega), wrap_id (i := 1 + z) (by omega) (by omega), wrap_nat (by omega)]
    refine ih (n + 1) k _ (by omega) (by omega) (by simp; omega) (fun m hm => ?_) (by omega)
    rw [List.mem_append, List.mem_singleton] at hm
    rcases hm with hm | hm
    · exact hr m hm
    · omega
theorem SpanOrders : cenotaphlaw02_SpanOrders.Pure := by
  intro l0 l1 h0 hs0 hw0 h1 hs1 hw1
  refine ⟨50000, ?_⟩
  unfold cenotaphlaw02_SpanOrders.f
  have e : mn (l0.length : Int) 60 = ((min l0.length 60 : Nat) : Int) := mn_nat _ 60
  have hle : (l0.take (min l0.length 60)).length ≤ 60 := by rw [List.length_take]; omega
  rw [e, if_pos (by omega), if_pos (by omega), Int.toNat_natCast]
  exact l0_ok _ hle (fun x hx => hw0 x (List.mem_of_mem_take hx)) l1 hw1 _ 0 50000 [] rfl (by omega) rfl (by simp) (by omega)
end Go.Proofs.Ytejoofeigeoboaa.Pure
