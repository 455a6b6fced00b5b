/- VecGroups: Joins and Meets go in any order, and take one another back. No condition beyond the statement's own. -/
import Derived.Test.YtjdhnnpagaocnaaVecs4
import Derived.Test.YtjdhnnpagaocnaaVecsJ
import Derived.Test.YtjdhnnpagaocnaaVecsS
import Derived.Test.YtjdhnnpagaocnaaP18
import Derived.Test.YtjdhnnpagaocnaaGoalVecGroups
namespace Go.Proofs.Ytjdhnnpagaocnaa.Pure
open Go.RowKit Go.Proofs.Ytjdhnnpagaocnaa Go.Proofs.Ytjdhnnpagaocnaa.P Go.Proofs.YtjdhnnpagaocnaaW.PrintWords Go.Proofs.YtjdhnnpagaocnaaW.PrintLast
set_option linter.unusedVariables false
theorem VecGroups : cenotaphlaw03_VecGroups.Pure := by
  intro l0 l1 l2 hl0 hw0 hl1 hw1 hl2 hw2
  obtain ⟨a, ha, oka, hal⟩ := ref_fix3 l0 50002 (by omega)
  obtain ⟨b, hb, okb, hbl⟩ := ref_fix3 l1 50002 (by omega)
  obtain ⟨c, hc, okc, hcl⟩ := ref_fix3 l2 50002 (by omega)
  refine ⟨50002, ?_⟩
  unfold cenotaphlaw03_VecGroups.f
  have okx := convV_ok sR sA oka
  have oky := convV_ok sR sA okb
  have okz := convV_ok sR sA okc
  have hxl := convV_length sR sA a
  have hyl := convV_length sR sA b
  have hzl := convV_length sR sA c
  rw [ha, Option.bind_some, to3 a (by omega) _ (by omega), Option.bind_some, hb, Option.bind_some, to3 b (by omega) _ (by omega), Option.bind_some, hc, Option.bind_some, to3 c (by omega) _ (by omega), Option.bind_some]
  generalize convV sR sA a = x at okx hxl ⊢
  generalize convV sR sA b = y at oky hyl ⊢
  generalize convV sR sA c = z at okz hzl ⊢
  have J := fun {p q : List SA} (hp : OkV sA p) (hq : OkV sA q) (lp : p.length ≤ 100) (lq : q.length ≤ 100) (k : Nat) (hk : 200 < k) => vec_join hp hq (by omega) (by omega) k (by omega)
  have M := fun {p q : List SA} (hp : OkV sA p) (hq : OkV sA q) (lp : p.length ≤ 100) (lq : q.length ≤ 100) (k : Nat) (hk : 200 < k) => vec_meet hp hq (by omega) (by omega) k (by omega)
  have S := fun {p q : List SA} (hp : OkV sA p) (hq : OkV sA q) (lp : p.length ≤ 100) (h : ∀ i, ofV sA p i = ofV sA q i) (k : Nat) (hk : 200 < k) => show vec_Same.f k p q = some true by
    rw [vec_same p q (by omega) k (by omega), decide_eq_true (PV.ext hp.toPV hq.toPV h)]
  have g : ∀ k, 1000 < k → _ := fun k hk => (⟨J okx oky (by omega) (by omega) k (by omega), J oky okx (by omega) (by omega) k (by omega), J oky okz (by omega) (by omega) k (by omega), M okx oky (by omega) (by omega) k (by omega), M oky okx (by omega) (by omega) k (by omega), M oky okz (by omega) (by omega) k (by omega), M okx okz (by omega) (by omega) k (by omega)⟩ : _ ∧ _ ∧ _ ∧ _ ∧ _ ∧ _ ∧ _)
  obtain ⟨⟨xy, e1, k1, o1, n1⟩, ⟨yx, e2, k2, o2, n2⟩, _, ⟨mxy, e4, k4, o4, n4⟩, ⟨myx, e5, k5, o5, n5⟩, _, _⟩ := g 50002 (by omega)
  rw [told_ok3 _ (by omega), Option.bind_some, if_pos rfl, e1, Option.bind_some, e2, Option.bind_some, S k1 k2 (by omega) (fun i => by rw [o1, o2]; omega) _ (by omega), Option.bind_some, if_pos rfl, e4, Option.bind_some, e5, Option.bind_some, S k4 k5 (by omega) (fun i => by rw [o4, o5]; omega) _ (by omega), Option.bind_some]
  clear e1 k1 o1 n1 xy e2 k2 o2 n2 yx e4 k4 o4 n4 mxy e5 k5 o5 n5 myx
  obtain ⟨⟨xy, e1, k1, o1, n1⟩, _, ⟨yz, e3, k3, o3, n3⟩, ⟨mxy, e4, k4, o4, n4⟩, _, ⟨myz, e6, k6, o6, n6⟩, _⟩ := g 50001 (by omega)
  obtain ⟨xyz, e7, k7, o7, n7⟩ := J k1 okz (by omega) (by omega) 50001 (by omega)
  obtain ⟨xyz2, e8, k8, o8, n8⟩ := J okx k3 (by omega) (by omega) 50001 (by omega)
  obtain ⟨mxyz, e9, k9, o9, n9⟩ := M k4 okz (by omega) (by omega) 50001 (by omega)
  obtain ⟨mxyz2, e10, k10, o10, n10⟩ := M okx k6 (by omega) (by omega) 50001 (by omega)
  show cenotaphlaw03_VecGroups.j0 (50001 + 1) x y z (!true) = some true
  simp only [cenotaphlaw03_VecGroups.j0]
  rw [if_neg (by simp), e1, Option.bind_some, e7, Option.bind_some, e3, Option.bind_some, e8, Option.bind_some, S k7 k8 (by omega) (fun i => by rw [o7, o8, o1, o3]; omega) _ (by omega), Option.bind_some, if_pos rfl,
    e4, Option.bind_some, e9, Option.bind_some, e6, Option.bind_some, e10, Option.bind_some, S k9 k10 (by omega) (fun i => by rw [o9, o10, o4, o6]; omega) _ (by omega), Option.bind_some]
  clear e1 k1 o1 n1 xy e3 k3 o3 n3 yz e4 k4 o4 n4 mxy e6 k6 o6 n6 myz e7 k7 o7 n7 xyz e8 k8 o8 n8 xyz2 e9 k9 o9 n9 mxyz e10 k10 o10 n10 mxyz2
  obtain ⟨⟨xy, e1, k1, o1, n1⟩, _, ⟨yz, e3, k3, o3, n3⟩, ⟨mxy, e4, k4, o4, n4⟩, _, _, ⟨mxz, e5, k5, o5, n5⟩⟩ := g 50000 (by omega)
  obtain ⟨p1, e7, k7, o7, n7⟩ := J okx k4 (by omega) (by omega) 50000 (by omega)
  obtain ⟨p2, e8, k8, o8, n8⟩ := M okx k1 (by omega) (by omega) 50000 (by omega)
  obtain ⟨p3, e9, k9, o9, n9⟩ := M okx k3 (by omega) (by omega) 50000 (by omega)
  obtain ⟨p4, e10, k10, o10, n10⟩ := J k4 k5 (by omega) (by omega) 50000 (by omega)
  show cenotaphlaw03_VecGroups.j1 (50000 + 1) x y z (!true) = some true
  simp only [cenotaphlaw03_VecGroups.j1]
  rw [if_neg (by simp), e4, Option.bind_some, e7, Option.bind_some, S k7 okx (by omega) (fun i => by rw [o7, o4]; omega) _ (by omega), Option.bind_some, if_pos rfl, e1, Option.bind_some, e8, Option.bind_some, S k8 okx (by omega) (fun i => by rw [o8, o1]; omega) _ (by omega), Option.bind_some, if_pos rfl,
    e3, Option.bind_some, e9, Option.bind_some, Option.bind_some, e5, Option.bind_some, e10, Option.bind_some, S k9 k10 (by omega) (fun i => by rw [o9, o10, o3, o4, o5]; omega) _ (by omega), Option.bind_some]
end Go.Proofs.Ytjdhnnpagaocnaa.Pure
