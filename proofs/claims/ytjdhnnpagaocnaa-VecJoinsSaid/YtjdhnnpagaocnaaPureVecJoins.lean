/- VecJoins: of all two Vecs the farther and the nearer ones are told, whether one is within the other, and whether they are the same; the join is the least one that both are within, the meet the greatest within both. No condition beyond the statement's own. -/
import Derived.Test.YtjdhnnpagaocnaaVecs5
import Derived.Test.YtjdhnnpagaocnaaVecs9
import Derived.Test.YtjdhnnpagaocnaaVecsJ
import Derived.Test.YtjdhnnpagaocnaaVecsS
import Derived.Test.YtjdhnnpagaocnaaVecsW
import Derived.Test.YtjdhnnpagaocnaaP17
import Derived.Test.YtjdhnnpagaocnaaGoalVecJoins
namespace Go.Proofs.Ytjdhnnpagaocnaa.Pure
open Go.RowKit Go.Proofs.Ytjdhnnpagaocnaa Go.Proofs.Ytjdhnnpagaocnaa.P Go.Proofs.YtjdhnnpagaocnaaW.PrintWords Go.Proofs.YtjdhnnpagaocnaaW.PrintLast
set_option linter.unusedVariables false
theorem joins_end {x y z j m : List SA} (hx : OkV sA x) (hy : OkV sA y) (hz : OkV sA z) (hj : OkV sA j) (hm : OkV sA m) (l1 : x.length < 1000) (l2 : y.length < 1000) (l3 : z.length < 1000) (l4 : j.length < 1000) (l5 : m.length < 1000)
    (ej : ∀ i, ofV sA j i = max (ofV sA x i) (ofV sA y i)) (em : ∀ i, ofV sA m i = min (ofV sA x i) (ofV sA y i)) (k : Nat) : cenotaphlaw03_VecJoins.j0 (k + 2) x y z j m false = some true := by
  have W := fun {a b : List SA} (ha : OkV sA a) (hb : OkV sA b) (hl : b.length < 1000) => vec_within ha.toPV hb.toPV (by omega : b.length < 1000000)
  obtain ⟨b1, e1, h1⟩ := W hx hj l4
  obtain ⟨b2, e2, h2⟩ := W hy hj l4
  obtain ⟨b3, e3, h3⟩ := W hm hx l1
  obtain ⟨b4, e4, h4⟩ := W hm hy l2
  obtain ⟨b5, e5, h5⟩ := W hj hz l3
  obtain ⟨b6, e6, h6⟩ := W hx hz l3
  obtain ⟨b7, e7, h7⟩ := W hy hz l3
  obtain ⟨b8, e8, h8⟩ := W hz hm l5
  obtain ⟨b9, e9, h9⟩ := W hz hx l1
  obtain ⟨b10, e10, h10⟩ := W hz hy l2
  have t1 : b1 = true := h1.mpr fun i => by rw [ej]; omega
  have t2 : b2 = true := h2.mpr fun i => by rw [ej]; omega
  have t3 : b3 = true := h3.mpr fun i => by rw [em]; omega
  have t4 : b4 = true := h4.mpr fun i => by rw [em]; omega
  have t5 : b5 = (b6 && b7) := by
    rw [Bool.eq_iff_iff, Bool.and_eq_true, h5, h6, h7]
    constructor
    · intro h
      exact ⟨fun i => by have := h i; rw [ej] at this; omega, fun i => by have := h i; rw [ej] at this; omega⟩
    · rintro ⟨p, q⟩ i
      have := p i; have := q i
      rw [ej]; omega
  have t8 : b8 = (b9 && b10) := by
    rw [Bool.eq_iff_iff, Bool.and_eq_true, h8, h9, h10]
    constructor
    · intro h
      exact ⟨fun i => by have := h i; rw [em] at this; omega, fun i => by have := h i; rw [em] at this; omega⟩
    · rintro ⟨p, q⟩ i
      have := p i; have := q i
      rw [em]; omega
  simp only [cenotaphlaw03_VecJoins.j0]
  rw [if_neg (by simp), e1, Option.bind_some, if_pos t1, e2, Option.bind_some, if_pos t2, e3, Option.bind_some, if_pos t3, e4, Option.bind_some, t4]
  simp only [cenotaphlaw03_VecJoins.j1]
  rw [if_neg (by simp), e5, Option.bind_some, e6, Option.bind_some, e7, e8, e9, e10, t5, t8]
  cases b6 <;> cases b7 <;> cases b9 <;> cases b10 <;> rfl
theorem VecJoins : cenotaphlaw03_VecJoins.Pure := by
  intro l0 l1 l2 hl0 hw0 hl1 hw1 hl2 hw2
  obtain ⟨a, ha, oka, hal⟩ := ref_fix3 l0 50002 (by omega)
  obtain ⟨b, hb, okb, hbl⟩ := ref_fix3 l1 50002 (by omega)
  obtain ⟨c, hc, okc, hcl⟩ := ref_fix3 l2 50002 (by omega)
  refine ⟨50002, ?_⟩
  unfold cenotaphlaw03_VecJoins.f
  have okx := convV_ok sR sA oka
  have oky := convV_ok sR sA okb
  have okz := convV_ok sR sA okc
  have hxl := convV_length sR sA a
  have hyl := convV_length sR sA b
  have hzl := convV_length sR sA c
  have ox := fun i => ofV_conv sR sA i a
  have oy := fun i => ofV_conv sR sA i b
  have bx := convV_back sR sA a
  have bY := convV_back sR sA b
  rw [ha, Option.bind_some, hb, Option.bind_some, hc, Option.bind_some, to3 a (by omega) _ (by omega), Option.bind_some, to3 b (by omega) _ (by omega), Option.bind_some, to3 c (by omega) _ (by omega), Option.bind_some]
  generalize convV sR sA a = x at okx hxl ox bx ⊢
  generalize convV sR sA b = y at oky hyl oy bY ⊢
  generalize convV sR sA c = z at okz hzl ⊢
  obtain ⟨j, ej, okj, oj, ljl⟩ := vec_join okx oky (by omega) (by omega) 50002 (by omega)
  obtain ⟨m, em, okm, om, lml⟩ := vec_meet okx oky (by omega) (by omega) 50002 (by omega)
  obtain ⟨rj, erj, pj, oj2, lrj⟩ := ref_join oka okb (by omega) (by omega) 50002 (by omega)
  obtain ⟨rm, erm, pm, om2, lrm⟩ := ref_meet oka okb (by omega) (by omega) 50002 (by omega)
  obtain ⟨w1, ew1, hw1⟩ := vec_within okx.toPV oky.toPV (by omega)
  obtain ⟨w2, ew2, hw2⟩ := ref_within3 oka.toPV okb.toPV (by omega) (by omega) 50002 (by omega)
  have sj : convV sA sR j = rj := same_as okj.toPV pj fun i => by rw [oj, oj2, ox, oy]
  have sm : convV sA sR m = rm := same_as okm.toPV pm fun i => by rw [om, om2, ox, oy]
  have hww : w1 = w2 := by
    rw [Bool.eq_iff_iff, hw1, hw2]
    exact ⟨fun h i => by have := h i; rwa [ox, oy] at this, fun h i => by rw [ox, oy]; exact h i⟩
  have hss : decide (x = y) = decide (a = b) := by
    rw [decide_eq_decide]
    constructor
    · intro h; rw [← bx, ← bY, h]
    · intro h
      rw [PV.ext_iff okx.toPV oky.toPV]
      intro i; rw [ox, oy, h]
  rw [ej, Option.bind_some, em, Option.bind_some, told_ok3 _ (by omega), Option.bind_some, if_pos rfl, from3 j (by omega) _ (by omega), Option.bind_some, erj, Option.bind_some, sj, ref_same3 _ _ (by omega) _ (by omega), Option.bind_some, if_pos (by simp),
    from3 m (by omega) _ (by omega), Option.bind_some, erm, Option.bind_some, sm, ref_same3 _ _ (by omega) _ (by omega), Option.bind_some, if_pos (by simp), ew1, Option.bind_some, ew2, Option.bind_some, hww, if_neg (by simp),
    vec_same x y (by omega) _ (by omega), Option.bind_some, ref_same3 a b (by omega) _ (by omega), Option.bind_some, hss, if_neg (by simp), vec_right_ok okj (by omega) _ (by omega), Option.bind_some, if_pos rfl, vec_right_ok okm (by omega) _ (by omega), Option.bind_some]
  exact joins_end okx oky okz okj okm (by omega) (by omega) (by omega) (by omega) (by omega) oj om 50000
end Go.Proofs.Ytjdhnnpagaocnaa.Pure
