/- CertMerges: of all two lists those of both are told; in any order, and twice as once. No condition beyond the statement's own. -/
import Derived.Test.YtloeealbggobjaaCert1
import Derived.Test.YtloeealbggobjaaVecs8
import Derived.Test.YtloeealbggobjaaVecsJ
import Derived.Test.YtloeealbggobjaaVecsS
import Derived.Test.YtloeealbggobjaaP8
import Derived.Test.YtloeealbggobjaaP14
import Derived.Test.YtloeealbggobjaaGoalCertMerges
namespace Go.Proofs.Ytloeealbggobjaa.Pure
open Go.RowKit Go.Proofs.Ytloeealbggobjaa Go.Proofs.Ytloeealbggobjaa.P Go.Proofs.YtloeealbggobjaaW.PrintWords Go.Proofs.YtloeealbggobjaaW.PrintLast
set_option linter.unusedVariables false
set_option linter.unusedSimpArgs false
theorem merge_ok {a b : List SA} (ha : OkV sA a) (hb : OkV sA b) (h1 : a.length < 100000) (h2 : b.length < 100000) (k : Nat) (hk : b.length < k) :
    ∃ r, cert_Merge.f k a b = some r ∧ OkV sA r ∧ (∀ i, ofV sA r i = max (ofV sA a i) (ofV sA b i)) ∧ r.length ≤ a.length + b.length := by
  obtain ⟨r, e, h⟩ := vec_join ha hb h1 h2 k hk
  exact ⟨r, by unfold cert_Merge.f; rw [e, Option.bind_some], h⟩
theorem CertMerges : cenotaphlaw09_CertMerges.Pure := by
  intro l0 l1 l2 hl0 hw0 hl1 hw1 hl2 hw2
  obtain ⟨a, ha, oka, hal⟩ := ref_fix3 l0 50000 (by omega)
  obtain ⟨b, hb, okb, hbl⟩ := ref_fix3 l1 50000 (by omega)
  obtain ⟨c, hc, okc, hcl⟩ := ref_fix3 l2 50000 (by omega)
  refine ⟨50000, ?_⟩
  unfold cenotaphlaw09_CertMerges.f
  have okx := convV_ok sR sA oka
  have oky := convV_ok sR sA okb
  have okz := convV_ok sR sA okc
  have hxl := convV_length sR sA a
  have hyl := convV_length sR sA b
  have hzl := convV_length sR sA c
  have ox := fun i => ofV_conv sR sA i a
  have oy := fun i => ofV_conv sR sA i b
  rw [ha, Option.bind_some, hb, Option.bind_some, hc, Option.bind_some, to3 a (by omega) _ (by omega), Option.bind_some, to3 b (by omega) _ (by omega), Option.bind_some, to3 c (by omega) _ (by omega), Option.bind_some]
  generalize convV sR sA a = x at okx hxl ox ⊢
  generalize convV sR sA b = y at oky hyl oy ⊢
  generalize convV sR sA c = z at okz hzl ⊢
  obtain ⟨j, ej, okj, oj, ljl⟩ := merge_ok okx oky (by omega) (by omega) 50000 (by omega)
  obtain ⟨rj, erj, pj, oj2, lrj⟩ := ref_join oka okb (by omega) (by omega) 50000 (by omega)
  obtain ⟨j2, ej2, okj2, oj22, lj2⟩ := merge_ok oky okx (by omega) (by omega) 50000 (by omega)
  obtain ⟨j3, ej3, okj3, oj3, lj3⟩ := merge_ok okj oky (by omega) (by omega) 50000 (by omega)
  obtain ⟨j4, ej4, okj4, oj4, lj4⟩ := merge_ok okj okz (by omega) (by omega) 50000 (by omega)
  obtain ⟨j5, ej5, okj5, oj5, lj5⟩ := merge_ok oky okz (by omega) (by omega) 50000 (by omega)
  obtain ⟨j6, ej6, okj6, oj6, lj6⟩ := merge_ok okx okj5 (by omega) (by omega) 50000 (by omega)
  have sj : convV sA sR j = rj := same_as okj.toPV pj fun i => by rw [oj, oj2, ox, oy]
  have s2 : j = j2 := PV.ext okj.toPV okj2.toPV fun i => by rw [oj, oj22]; omega
  have s3 : j = j3 := PV.ext okj.toPV okj3.toPV fun i => by rw [oj3, oj]; omega
  have s4 : j4 = j6 := PV.ext okj4.toPV okj6.toPV fun i => by rw [oj4, oj6, oj5, oj]; omega
  rw [ej, Option.bind_some, told9, Option.bind_some, if_pos rfl, from3 j (by omega) _ (by omega), Option.bind_some, erj, Option.bind_some, sj, ref_same3 _ _ (by omega) _ (by omega), Option.bind_some, if_pos (by simp),
    ej2, Option.bind_some, vec_same j j2 (by omega) _ (by omega), Option.bind_some, if_pos (by simpa using s2), ej3, Option.bind_some, vec_same j j3 (by omega) _ (by omega), Option.bind_some, if_pos (by simpa using s3),
    ej4, Option.bind_some, ej5, Option.bind_some, ej6, Option.bind_some, vec_same j4 j6 (by omega) _ (by omega), Option.bind_some, decide_eq_true s4]
end Go.Proofs.Ytloeealbggobjaa.Pure
