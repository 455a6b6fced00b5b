/- WireMosts: a number that is above most, and a text that is longer, are of another form, and nothing is taken any more; as many as most are taken. No condition beyond the statement's own. -/
import Derived.Lib.Strings
import Derived.Test.YtgkcdmhndplejaaWire1
import Derived.Test.YtgkcdmhndplejaaP8
import Derived.Test.YtgkcdmhndplejaaGoalWireMosts
namespace Go.Proofs.Ytgkcdmhndplejaa.Pure
open Go.RowKit Go.Proofs.Ytgkcdmhndplejaa Go.Proofs.Ytgkcdmhndplejaa.P Go.Proofs.YtgkcdmhndplejaaW.PrintWords Go.Proofs.YtgkcdmhndplejaaW.PrintLast
set_option linter.unusedVariables false
theorem mosts_d_pos (a2 : Int) : 1 ≤ mosts_d a2 := by
  have h0 : 0 ≤ IntKind.u64.wrap a2 := by
    simp only [IntKind.wrap, IntKind.signed, IntKind.bits]
    simp
    omega
  rw [mosts_d]
  generalize IntKind.u64.wrap a2 = y at h0
  rw [Int.tmod_eq_emod_of_nonneg h0, wrap_id (i := y % 5) (by omega) (by omega), wrap_id (by omega) (by omega)]
  omega
theorem WireMosts : cenotaphlaw06_WireMosts.Pure := by
  intro a0 s a2 h0 hs h2
  refine ⟨100, ?_⟩
  have := wf_int h0
  have hd1 := mosts_d_pos a2
  have hm0 : 0 ≤ mx a0 0 := by unfold mx; split <;> omega
  have hm1 : mx a0 0 ≤ 9223372036854775807 := by unfold mx; split <;> omega
  rw [cenotaphlaw06_WireMosts.f]
  by_cases hl : 300 < (s.size : Int)
  · rw [if_pos hl]
  rw [if_neg hl]
  generalize mx a0 0 = m at hm0 hm1
  have hmm : mx m 0 = m := by unfold mx; split <;> omega
  rw [put_ok [] (by decide) m hm1 100 (by omega), Option.bind_some, List.nil_append, hmm]
  generalize mosts_d a2 = d at hd1
  have l1 := enc_len 9 m
  have l2 := enc_len 9 (s.size : Int)
  have l3 := bytesOf_length s
  rw [puttext_ok _ (by omega) s (by omega) 100 (by omega), Option.bind_some, if_pos (by rw [List.length_append, List.length_append]; omega)]
  have hbl : (enc 9 m ++ enc 9 (s.size : Int) ++ bytesOf s).length = (enc 9 m).length + (enc 9 (s.size : Int)).length + s.size := by rw [List.length_append, List.length_append, l3]
  have n1 : ∀ most, wire_Reader_Num.f 100 (enc 9 m ++ enc 9 (s.size : Int) ++ bytesOf s) 0 0 most = some (if m > most then (0, 0, 3) else (m, 0 + ((enc 9 m).length : Int), 0)) := fun most =>
    num_enc _ 0 (by omega) (by omega) m most hm0 hm1 (enc 9 (s.size : Int) ++ bytesOf s) (by rw [show (0 : Int).toNat = 0 from rfl, List.drop_zero, List.append_assoc]) 100 (by omega)
  have t1 := text_enc (enc 9 m ++ enc 9 (s.size : Int) ++ bytesOf s) ((enc 9 m).length : Int) (by omega) (by omega) s (by omega) (s.size : Int) (by omega) [] (by rw [Int.toNat_natCast, List.append_assoc, List.drop_left, List.append_nil]) 100 (by omega)
  have hlt : ¬ (((enc 9 m).length : Int) + ((enc 9 (s.size : Int)).length : Int) + (s.size : Int) < ((enc 9 m ++ enc 9 (s.size : Int) ++ bytesOf s).length : Int)) := by rw [hbl]; omega
  rw [cenotaphlaw06_WireMosts.r, n1 m, if_neg (by omega), Option.bind_some]
  dsimp only
  rw [if_pos rfl, Int.zero_add, t1, Option.bind_some]
  dsimp only
  rw [if_pos rfl, if_pos (if_neg (fun h => hlt h.2))]
  by_cases hmd : m < d
  · rw [if_pos hmd]
  rw [if_neg hmd, cenotaphlaw06_WireMosts.q, wrap_id (by omega) (by omega), n1 (m - d), if_pos (by omega), Option.bind_some]
  dsimp only
  rw [if_pos rfl, if_pos rfl, wire_Reader_Text.f, num_err _ _ _ _ (by decide), Option.bind_some]
  dsimp only
  rw [if_pos (by decide), Option.bind_some]
  dsimp only
  rw [if_pos (show (⟨#[]⟩ : ByteArray).toList = [] by rw [Lib.toList_data]), num_err _ _ _ _ (by decide), Option.bind_some]
  dsimp only
  rw [if_pos rfl, if_neg (fun h => by cases h.1)]
  rfl
end Go.Proofs.Ytgkcdmhndplejaa.Pure
