/- VecSets: of all Vecs how far one is, what there is when it is so far, and without it, is told; what is handed in stays. No condition beyond the statement's own. -/
import Derived.Test.YtjdhnnpagaocnaaVecs5
import Derived.Test.YtjdhnnpagaocnaaVecs6
import Derived.Test.YtjdhnnpagaocnaaVecsD
import Derived.Test.YtjdhnnpagaocnaaP15
import Derived.Test.YtjdhnnpagaocnaaGoalVecSets
namespace Go.Proofs.Ytjdhnnpagaocnaa.Pure
open Go.RowKit Go.Proofs.Ytjdhnnpagaocnaa Go.Proofs.Ytjdhnnpagaocnaa.P Go.Proofs.YtjdhnnpagaocnaaW.PrintWords Go.Proofs.YtjdhnnpagaocnaaW.PrintLast
set_option linter.unusedVariables false
theorem VecSets : cenotaphlaw03_VecSets.Pure := by
  intro l0 a n hl hw ha hn
  obtain ⟨v, hf, ok, hlen⟩ := ref_fix3 l0 50000 (by omega)
  refine ⟨50000, ?_⟩
  have okx := convV_ok sR sA ok
  have hxl := convV_length sR sA v
  have hback := convV_back sR sA v
  have hof := fun i => ofV_conv sR sA i v
  unfold cenotaphlaw03_VecSets.f
  rw [hf, Option.bind_some, to3 v (by omega) _ (by omega), Option.bind_some]
  generalize convV sR sA v = x at okx hxl hback hof ⊢
  have hsl := setV_length (s := sA) x a n
  have hdl := dropM_length (key := sA.id) a x
  have hrl := setV_length (s := sR) v a n
  have oks := setV_ok okx a n
  have okd := okx.drop a
  have e1 : convV sA sR (setV sA x a n) = setV sR v a n := same_as oks.toPV (setV_PV ok.toPV a n) fun i => by rw [ofV_set okx.toPV, ofV_set ok.toPV, hof, hof]
  have e2 : convV sA sR (dropM sA.id a x) = dropM sR.id a v := same_as okd.toPV (ok.toPV.drop a) fun i => by rw [ofV_drop, ofV_drop, hof]
  rw [vec_set okx.toPV (by omega), Option.bind_some, vec_drop x (by omega), Option.bind_some, told_ok3 _ (by omega), Option.bind_some, if_pos rfl, vec_of okx.toPV (by omega), Option.bind_some, ref_of v a (by omega) _ (by omega), Option.bind_some, if_pos (hof a),
    from3 _ (by omega) _ (by omega), Option.bind_some, ref_set (small_of ok) (by omega) a n _ (by omega), Option.bind_some, e1, ref_same3 _ _ (by omega) _ (by omega), Option.bind_some, if_pos (by simp),
    from3 _ (by omega) _ (by omega), Option.bind_some, ref_drop v a (by omega) _ (by omega), Option.bind_some, e2, ref_same3 _ _ (by have := dropM_length (key := sR.id) a v; omega) _ (by have := dropM_length (key := sR.id) a v; omega), Option.bind_some, if_pos (by simp),
    vec_right_ok oks (by omega) _ (by omega), Option.bind_some, if_pos rfl, vec_right_ok okd (by omega) _ (by omega), Option.bind_some, if_pos rfl, from3 _ (by omega) _ (by omega), Option.bind_some, hback, ref_same3 _ _ (by omega) _ (by omega), Option.bind_some]
  simp
end Go.Proofs.Ytjdhnnpagaocnaa.Pure
