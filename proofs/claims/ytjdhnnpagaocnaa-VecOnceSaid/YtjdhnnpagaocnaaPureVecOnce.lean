/- VecOnce: two Vecs are the same just if each is within the other, and just if each id is as far in both. No condition beyond the statement's own. -/
import Derived.Test.YtjdhnnpagaocnaaVecs4
import Derived.Test.YtjdhnnpagaocnaaVecsS
import Derived.Test.YtjdhnnpagaocnaaVecsW
import Derived.Test.YtjdhnnpagaocnaaP14
import Derived.Test.YtjdhnnpagaocnaaGoalVecOnce
namespace Go.Proofs.Ytjdhnnpagaocnaa.Pure
open Go.RowKit Go.Proofs.Ytjdhnnpagaocnaa Go.Proofs.Ytjdhnnpagaocnaa.P Go.Proofs.YtjdhnnpagaocnaaW.PrintWords Go.Proofs.YtjdhnnpagaocnaaW.PrintLast
set_option linter.unusedVariables false
/-- Each of a list is as far in a Vec. -/
def alikeV (y : List SA) (l : List SR) : Bool := l.all fun z => decide (ofV sA y z.f0 = z.f1)
theorem once_end {x y : List SA} (hx : OkV sA x) (hy : OkV sA y) (h1 : x.length ≤ 12) (h2 : y.length ≤ 12) (al : Bool) (hal : al = true ↔ x = y) (k : Nat) (hk : 100 < k) :
    ((cenotaphlaw03_told.f k).bind fun t211 => (if t211 = true then ((vec_Same.f k x y).bind fun t212 => (if (t212 == al) = true then ((vec_Within.f x y).bind fun t213 => (if t213 = true then ((vec_Within.f y x).bind fun t214 => (some (al == t214))) else (some (al == false)))) else (none))) else (none))) = some true := by
  obtain ⟨r, e, hr⟩ := vec_within hx.toPV hy.toPV (by omega)
  obtain ⟨q, e2, hq⟩ := vec_within hy.toPV hx.toPV (by omega)
  have hs : decide (x = y) = al := by rw [Bool.eq_iff_iff, decide_eq_true_eq, hal]
  rw [told_ok3 _ (by omega), Option.bind_some, if_pos rfl, vec_same x y (by omega) k (by omega), Option.bind_some, hs, if_pos (by simp), e, Option.bind_some]
  have hboth : (r = true ∧ q = true) ↔ al = true := by
    rw [hr, hq, hal, PV.ext_iff hx.toPV hy.toPV]
    exact ⟨fun h i => Int.le_antisymm (h.1 i) (h.2 i), fun h => ⟨fun i => by rw [h i]; exact Int.le_refl _, fun i => by rw [h i]; exact Int.le_refl _⟩⟩
  cases r with
  | true =>
    rw [if_pos rfl, e2, Option.bind_some]
    congr 1
    have : al = q := by rw [Bool.eq_iff_iff, ← hboth]; simp
    rw [this]; simp
  | false =>
    rw [if_neg (by simp)]
    congr 1
    have : al = false := by rw [← Bool.not_eq_true, ← hboth]; simp
    rw [this]; rfl
theorem once_l1 {x y : List SA} (hx : OkV sA x) (hy : OkV sA y) (h1 : x.length ≤ 12) (h2 : y.length ≤ 12) (b : List SR) (hb : b.length ≤ 12) (al0 : Bool) (hal : (al0 && alikeV x b) = true ↔ x = y) (d : Nat) : ∀ (n k : Nat), b.length - n = d → n ≤ b.length → d + 200 < k →
    cenotaphlaw03_VecOnce.l1 k b x y (al0 && alikeV x (b.take n)) (n : Int) = some true := by
  induction d with
  | zero =>
    intro n k hd hn hk
    obtain ⟨k, rfl⟩ : ∃ m, k = m + 1 := ⟨k - 1, by omega⟩
    simp only [cenotaphlaw03_VecOnce.l1]
    rw [if_neg (by omega), List.take_of_length_le (by omega)]
    exact once_end hx hy h1 h2 _ hal k (by omega)
  | succ d ih =>
    intro n k hd hn hk
    obtain ⟨k, rfl⟩ : ∃ m, k = m + 1 := ⟨k - 1, by omega⟩
    have ih' := ih (n + 1) k (by omega) (by omega) (by omega)
    have e : alikeV x (b.take (n + 1)) = (alikeV x (b.take n) && decide (ofV sA x (b.getD n z33).f0 = (b.getD n z33).f1)) := by
      unfold alikeV
      rw [← take_succ_getD b z33 n (by omega), List.all_append, List.all_cons, List.all_nil, Bool.and_true]
    rw [e, ← Bool.and_assoc] at ih'
    simp only [cenotaphlaw03_VecOnce.l1]
    rw [if_pos (by omega), wrap_nat (by omega)]
    by_cases hc : (al0 && alikeV x (b.take n)) = true
    · rw [hc] at ih' ⊢
      rw [Bool.true_and] at ih'
      rw [if_pos rfl, if_pos (by omega), rdR, vec_of hx.toPV (by omega), Option.bind_some]
      exact ih'
    · have hc' : (al0 && alikeV x (b.take n)) = false := by simpa using hc
      rw [hc'] at ih' ⊢
      rw [Bool.false_and] at ih'
      rw [if_neg (by simp)]
      exact ih'
theorem once_l0 {x y : List SA} (hx : OkV sA x) (hy : OkV sA y) (h1 : x.length ≤ 12) (h2 : y.length ≤ 12) (a b : List SR) (ha : a.length ≤ 12) (hb : b.length ≤ 12) (hal : (alikeV y a && alikeV x b) = true ↔ x = y) (d : Nat) : ∀ (n k : Nat), a.length - n = d → n ≤ a.length → d + 300 < k →
    cenotaphlaw03_VecOnce.l0 k a b x y (alikeV y (a.take n)) (n : Int) = some true := by
  induction d with
  | zero =>
    intro n k hd hn hk
    obtain ⟨k, rfl⟩ : ∃ m, k = m + 1 := ⟨k - 1, by omega⟩
    simp only [cenotaphlaw03_VecOnce.l0]
    rw [if_neg (by omega), List.take_of_length_le (by omega)]
    have := once_l1 hx hy h1 h2 b hb (alikeV y a) hal b.length 0 k (by omega) (by omega) (by omega)
    simpa [alikeV] using this
  | succ d ih =>
    intro n k hd hn hk
    obtain ⟨k, rfl⟩ : ∃ m, k = m + 1 := ⟨k - 1, by omega⟩
    have ih' := ih (n + 1) k (by omega) (by omega) (by omega)
    have e : alikeV y (a.take (n + 1)) = (alikeV y (a.take n) && decide (ofV sA y (a.getD n z33).f0 = (a.getD n z33).f1)) := by
      unfold alikeV
      rw [← take_succ_getD a z33 n (by omega), List.all_append, List.all_cons, List.all_nil, Bool.and_true]
    rw [e] at ih'
    simp only [cenotaphlaw03_VecOnce.l0]
    rw [if_pos (by omega), wrap_nat (by omega)]
    by_cases hc : alikeV y (a.take n) = true
    · rw [hc] at ih' ⊢
      rw [Bool.true_and] at ih'
      rw [if_pos rfl, if_pos (by omega), rdR, vec_of hy.toPV (by omega), Option.bind_some]
      exact ih'
    · have hc' : alikeV y (a.take n) = false := by simpa using hc
      rw [hc'] at ih' ⊢
      rw [Bool.false_and] at ih'
      rw [if_neg (by simp)]
      exact ih'
theorem VecOnce : cenotaphlaw03_VecOnce.Pure := by
  intro l0 l1 hl0 hw0 hl1 hw1
  obtain ⟨a, ha, oka, hal⟩ := ref_fix3 l0 50000 (by omega)
  obtain ⟨b, hb, okb, hbl⟩ := ref_fix3 l1 50000 (by omega)
  refine ⟨50000, ?_⟩
  unfold cenotaphlaw03_VecOnce.f
  have okx := convV_ok sR sA oka
  have oky := convV_ok sR sA okb
  have hxl := convV_length sR sA a
  have hyl := convV_length sR sA b
  rw [ha, Option.bind_some, hb, Option.bind_some, to3 a (by omega) _ (by omega), Option.bind_some, to3 b (by omega) _ (by omega), Option.bind_some]
  have key : (alikeV (convV sR sA b) a && alikeV (convV sR sA a) b) = true ↔ convV sR sA a = convV sR sA b := by
    rw [PV.ext_iff okx.toPV oky.toPV, Bool.and_eq_true]
    unfold alikeV
    rw [List.all_eq_true, List.all_eq_true]
    constructor
    · rintro ⟨h1, h2⟩ i
      rw [ofV_conv, ofV_conv]
      rcases ofV_cases (s := sR) a i with ⟨x, hx, e1, e⟩ | ⟨hna, e⟩
      · have := of_decide_eq_true (h1 x hx)
        rw [ofV_conv] at this
        rw [e, ← e1]
        exact this.symm
      · rcases ofV_cases (s := sR) b i with ⟨x, hx, e1, e2⟩ | ⟨hnb, e2⟩
        · have := of_decide_eq_true (h2 x hx)
          rw [ofV_conv] at this
          rw [e2, ← e1]
          exact this
        · rw [e, e2]
    · intro h
      constructor
      · intro x hx
        rw [decide_eq_true_eq, ← h, ofV_conv]
        exact ofV_mem oka.toPV hx
      · intro x hx
        rw [decide_eq_true_eq, h, ofV_conv]
        exact ofV_mem okb.toPV hx
  have := once_l0 okx oky (by omega) (by omega) a b hal hbl key a.length 0 50000 (by omega) (by omega) (by omega)
  simpa [alikeV] using this
end Go.Proofs.Ytjdhnnpagaocnaa.Pure
