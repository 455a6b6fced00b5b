/- CertPuts: of all lists, ids and numbers what there is then is told, whether one is gone, and with how many events; what is handed in stays. No condition beyond the statement's own. -/
import Derived.Test.YtloeealbggobjaaCert1
import Derived.Test.YtloeealbggobjaaVecs2
import Derived.Test.YtloeealbggobjaaVecs6
import Derived.Test.YtloeealbggobjaaP6
import Derived.Test.YtloeealbggobjaaP9
import Derived.Test.YtloeealbggobjaaP11
import Derived.Test.YtloeealbggobjaaGoalCertPuts
namespace Go.Proofs.Ytloeealbggobjaa.Pure
open Go.RowKit Go.Proofs.Ytloeealbggobjaa Go.Proofs.Ytloeealbggobjaa.P Go.Proofs.YtloeealbggobjaaW.PrintWords Go.Proofs.YtloeealbggobjaaW.PrintLast
set_option linter.unusedVariables false
set_option linter.unusedSimpArgs false
theorem rgone_ok (l : List SR) (hl : l.length < 1000000) (a : ByteArray) (k : Nat) (hk : l.length < k) : cenotaphref09_Gone.f k l a = some (decide (ofV sR l a > 0)) := by
  unfold cenotaphref09_Gone.f
  rw [ref_of l a hl k hk, Option.bind_some]
theorem rlast_ok {l : List SR} (h : OkV sR l) (hl : l.length < 1000000) (a : ByteArray) (k : Nat) (hk : l.length < k) : cenotaphref09_Last.f k l a = some (max (ofV sR l a - 1) 0) := by
  have h0 := h.toPV.nonneg a; have h1 := h.le_of a
  unfold cenotaphref09_Last.f
  rw [ref_of l a hl k hk, Option.bind_some, wrap_id (by omega) (by omega), mx_max]
theorem rput_ok {l : List SR} (hs : SmallR l) (hl : l.length < 10000) (a : ByteArray) (n : Int) (k : Nat) (hk : 20002 < k) : cenotaphref09_Put.f k l a n = some (setV sR l a (1 + max 0 (min n 1048575))) := by
  unfold cenotaphref09_Put.f
  rw [mx_max, mn_min, ref_set hs hl a _ k hk, Option.bind_some]
theorem CertPuts : cenotaphlaw09_CertPuts.Pure := by
  intro l0 a n hl hw ha hn
  obtain ⟨v, hf, ok, hlen⟩ := ref_fix3 l0 50000 (by omega)
  refine ⟨50000, ?_⟩
  have okx := convV_ok sR sA ok
  have hxl := convV_length sR sA v
  have hback := convV_back sR sA v
  have hof := fun i => ofV_conv sR sA i v
  unfold cenotaphlaw09_CertPuts.f
  rw [hf, Option.bind_some, to3 v (by omega) _ (by omega), Option.bind_some]
  generalize convV sR sA v = x at okx hxl hback hof ⊢
  rw [put_ok okx.toPV (by omega), Option.bind_some, rput_ok (small_of ok) (by omega) a n _ (by omega), Option.bind_some]
  obtain ⟨m, hm⟩ : ∃ m, m = 1 + max 0 (min n 1048575) := ⟨_, rfl⟩
  rw [← hm]
  have hm1 : 1 ≤ m := by omega
  have hsl := setV_length (s := sA) x a m
  have hrl := setV_length (s := sR) v a m
  have oks := setV_ok okx a m
  have okr := setV_ok ok a m
  have hall : ∀ i, ofV sA (setV sA x a m) i = ofV sR (setV sR v a m) i := fun i => by rw [ofV_set okx.toPV, ofV_set ok.toPV, hof, hof]
  have e1 : convV sA sR (setV sA x a m) = setV sR v a m := same_as oks.toPV okr.toPV hall
  have hs := ofV_set okx.toPV a a m
  have hx0 := okx.toPV.nonneg a
  rw [hof] at hs hx0
  rw [told9, Option.bind_some, if_pos rfl, from3 _ (by omega) _ (by omega), Option.bind_some, e1, ref_same3 _ _ (by omega) _ (by omega), Option.bind_some, if_pos (by simp), gone_ok okx.toPV (by omega), Option.bind_some, rgone_ok v (by omega) a _ (by omega), Option.bind_some, hof,
    if_pos (by simp), last_ok okx (by omega), Option.bind_some, rlast_ok ok (by omega) a _ (by omega), Option.bind_some, hof, if_pos (by omega), gone_ok oks.toPV (by omega), Option.bind_some]
  have fin : ((cert_Last.f (setV sA x a m) a).bind fun t218 => ((cenotaphref09_Last.f 50000 (setV sR v a m) a).bind fun t219 => (if t218 = t219 then ((cenotaphlaw03_From.f 50000 x).bind fun t220 => ((cenotaphref03_Same.f 50000 t220 v).bind fun t223 => (if t223 = true then ((vec_Right.f 50000 (setV sA x a m)).bind fun t224 => (some t224)) else (none)))) else (none)))) = some true := by
    rw [last_ok oks (by omega), Option.bind_some, rlast_ok okr (by omega) a _ (by omega), Option.bind_some, hall, if_pos (by omega), from3 _ (by omega) _ (by omega), Option.bind_some, hback, ref_same3 _ _ (by omega) _ (by omega), Option.bind_some, if_pos (by simp), vec_right_ok oks (by omega) _ (by omega), Option.bind_some]
  by_cases hg : ofV sR v a > 0
  · rw [decide_eq_true hg, if_pos rfl, decide_eq_true (show ofV sA (setV sA x a m) a > 0 by rw [hs]; split <;> omega), if_pos (by rfl)]
    exact fin
  · rw [decide_eq_false hg, if_neg (by simp), ref_right a _ (by omega), Option.bind_some]
    by_cases hr : rightB a = true
    · rw [hr, decide_eq_true (show ofV sA (setV sA x a m) a > 0 by rw [hs, if_pos ⟨rfl, hr, hm1⟩]; omega), if_pos (by rfl)]
      exact fin
    · have hrf : rightB a = false := by simpa using hr
      rw [hrf, decide_eq_false (show ¬ ofV sA (setV sA x a m) a > 0 by rw [hs, if_neg (fun h => hr h.2.1)]; omega), if_pos (by rfl)]
      exact fin
end Go.Proofs.Ytloeealbggobjaa.Pure
