/- Items as bytes: what Fix makes, what Put lays of it, and what Take takes. No condition beyond what each says. -/
import Derived.Lib.Strings
import Derived.Test.YtkmhanpamdgnjaaWire1
import Derived.Test.YtkmhanpamdgnjaaIds3
import Derived.Test.YtkmhanpamdgnjaaP3
import Derived.Test.YtkmhanpamdgnjaaP4
namespace Go.Proofs.Ytkmhanpamdgnjaa.Pure
open Go.RowKit Go.Proofs.Ytkmhanpamdgnjaa Go.Proofs.Ytkmhanpamdgnjaa.P Go.Proofs.YtkmhanpamdgnjaaW.PrintWords Go.Proofs.YtkmhanpamdgnjaaW.PrintLast
set_option linter.unusedVariables false
/-- An item that may be. -/
structure OkI (I : It) : Prop where
  k0 : 0 ≤ I.k
  k1 : I.k ≤ 31
  i0 : rightB I.i = true
  i1 : I.i.size ≤ 6
  q0 : 1 ≤ I.q
  q1 : I.q ≤ 1048576
  s0 : 1 ≤ I.s
  s1 : I.s ≤ 1048576
  x0 : -1000 ≤ I.x
  x1 : I.x ≤ 1000
  y0 : -1000 ≤ I.y
  y1 : I.y ≤ 1000
  t1 : I.t.size ≤ 16
  d1 : I.d = true → I.h = false ∧ I.x = 0 ∧ I.y = 0
  h1 : I.h = false → I.t = ⟨#[]⟩
theorem OkI.ok {I : It} (h : OkI I) : I.ok := by
  have := h.x0; have := h.x1; have := h.y0; have := h.y1
  exact ⟨by omega, by omega⟩
theorem u64_mod (x m : Int) (hm : 0 < m) : 0 ≤ Int.tmod (IntKind.u64.wrap x) m ∧ Int.tmod (IntKind.u64.wrap x) m < m := by
  have h0 : 0 ≤ IntKind.u64.wrap x := by
    simp only [IntKind.wrap, IntKind.signed, IntKind.bits]
    simp
    omega
  rw [Int.tmod_eq_emod_of_nonneg h0]
  exact ⟨Int.emod_nonneg _ (by omega), Int.emod_lt_of_pos _ hm⟩
theorem wrap_small {x : Int} (h0 : 0 ≤ x) (h1 : x < 100000) : wrap64 x = x := wrap_id (by omega) (by omega)
theorem fixB_size (a : ByteArray) : (fixB a).size ≤ 6 := by
  have h : (fixB a).size = (fixL a.data.toList).length := by simp [fixB, ByteArray.size]
  rw [h, fixL, List.length_cons, List.length_map, List.length_take]
  omega
theorem fix_ok (a0_0 : Int) (a0_1 : ByteArray) (a0_2 a0_3 : Int) (a0_4 : Bool) (a0_5 a0_6 : Int) (a0_7 : ByteArray) (a0_8 : Bool) : ∃ I, fixI 100 a0_0 a0_1 a0_2 a0_3 a0_4 a0_5 a0_6 a0_7 a0_8 = some I ∧ OkI I := by
  rw [fixI, cenotaphref07_Fix.f, ref_fix a0_1 100 (by omega), Option.bind_some, cenotaphref05_Spot.f, Option.bind_some, Option.bind_some]
  refine ⟨_, rfl, ?_⟩
  have m1 := u64_mod a0_0 32 (by omega)
  have m2 := u64_mod a0_2 60 (by omega)
  have m3 := u64_mod a0_3 60 (by omega)
  have m4 := u64_mod a0_5 2001 (by omega)
  have m5 := u64_mod a0_6 2001 (by omega)
  generalize Int.tmod (IntKind.u64.wrap a0_0) 32 = n1 at m1 ⊢
  generalize Int.tmod (IntKind.u64.wrap a0_2) 60 = n2 at m2 ⊢
  generalize Int.tmod (IntKind.u64.wrap a0_3) 60 = n3 at m3 ⊢
  generalize Int.tmod (IntKind.u64.wrap a0_5) 2001 = n4 at m4 ⊢
  generalize Int.tmod (IntKind.u64.wrap a0_6) 2001 = n5 at m5 ⊢
  have w1 : wrap64 n1 = n1 := wrap_id (by omega) (by omega)
  have w2 : wrap64 (1 + wrap64 n2) = 1 + n2 := by rw [wrap_id (i := n2) (by omega) (by omega), wrap_id (by omega) (by omega)]
  have w3 : wrap64 (1 + wrap64 n3) = 1 + n3 := by rw [wrap_id (i := n3) (by omega) (by omega), wrap_id (by omega) (by omega)]
  have w4 : wrap64 (wrap64 n4 - 1000) = n4 - 1000 := by rw [wrap_id (i := n4) (by omega) (by omega), wrap_id (by omega) (by omega)]
  have w5 : wrap64 (wrap64 n5 - 1000) = n5 - 1000 := by rw [wrap_id (i := n5) (by omega) (by omega), wrap_id (by omega) (by omega)]
  have hm : (a0_7.extract 0 ((mn (a0_7.size : Int) 16) : Int).toNat).size ≤ 16 := by
    have e : (a0_7.extract 0 ((mn (a0_7.size : Int) 16) : Int).toNat).size ≤ ((mn (a0_7.size : Int) 16) : Int).toNat := by
      rw [ByteArray.size_extract]; omega
    have : mn (a0_7.size : Int) 16 ≤ 16 := by unfold mn; split <;> omega
    omega
  constructor
  all_goals dsimp only
  · rw [w1]; omega
  · rw [w1]; omega
  · exact fixB_right a0_1
  · exact fixB_size a0_1
  · rw [w2]; omega
  · rw [w2]; omega
  · rw [w3]; omega
  · rw [w3]; omega
  · rw [w4]; split <;> omega
  · rw [w4]; split <;> omega
  · rw [w5]; split <;> omega
  · rw [w5]; split <;> omega
  · split
    · exact hm
    · show 0 ≤ 16; omega
  · intro hd; rw [if_pos hd, if_pos hd, if_pos hd]; exact ⟨rfl, rfl, rfl⟩
  · intro hh
    rw [if_neg]
    rintro ⟨h1, h2⟩
    rw [if_neg (by rw [h2]; decide), h1] at hh
    cases hh
theorem ver_right {I : It} (h : OkI I) : item_Version_right.f I.i I.q I.s = some true := by
  rw [item_Version_right.f, id_Right.f, Option.bind_some, h.i0, if_pos rfl, if_pos h.q0, if_pos h.q1, if_pos h.s0, decide_eq_true h.s1]
theorem right_ok {I : It} (h : OkI I) : I.right = some true := by
  rw [It.right, itRight]
  have := h.k0; have := h.k1; have := h.t1
  rw [if_neg (by omega), if_neg (by omega), ver_right h, Option.bind_some, if_neg (by decide)]
  have hs : spotOk I.x I.y = true := by
    rw [spotOk, decide_eq_true ⟨h.x0, h.x1⟩, decide_eq_true ⟨h.y0, h.y1⟩]; rfl
  rw [hs, if_neg (by decide), if_neg (by omega)]
  rw [if_neg (fun hh => by
    obtain ⟨hd, hh⟩ := hh
    obtain ⟨h1, h2, h3⟩ := h.d1 hd
    rcases hh with hh | hh
    · rw [h1] at hh; cases hh
    · exact hh ⟨h2, h3⟩)]
  by_cases hh : I.h = true
  · rw [if_pos hh]
  · rw [if_neg hh, h.h1 (by simpa using hh)]
    rw [Lib.toList_data]
    rfl
/-- An item's bytes behind its kind. -/
def encT (I : It) : List Int := if I.d = true then [] else enc 9 (I.x + 1000) ++ (enc 9 (I.y + 1000) ++ (if I.h = true then enc 9 I.t.size ++ bytesOf I.t else []))
/-- An item's bytes. -/
def encI (I : It) : List Int := enc 9 I.k ++ (enc 9 I.i.size ++ bytesOf I.i ++ (enc 9 I.q ++ (enc 9 I.s ++ (enc 9 (itKd I.d I.h) ++ encT I))))
theorem encI_len {I : It} (h : OkI I) : (encI I).length ≤ 200 := by
  have e1 := enc_len 9 I.k
  have e2 := enc_len 9 (I.i.size : Int)
  have e3 := enc_len 9 I.q
  have e4 := enc_len 9 I.s
  have e5 := enc_len 9 (itKd I.d I.h)
  have e6 := enc_len 9 (I.x + 1000)
  have e7 := enc_len 9 (I.y + 1000)
  have e8 := enc_len 9 (I.t.size : Int)
  have b1 := bytesOf_length I.i
  have b2 := bytesOf_length I.t
  have := h.i1; have := h.t1
  have ht : (encT I).length ≤ 60 := by
    rw [encT]
    split
    · simp
    · split <;> simp only [List.length_append, List.length_nil] <;> omega
  rw [encI]
  simp only [List.length_append]
  omega
theorem put_i (l : List Int) (hl : l.length < 90000) (n : Int) (h0 : 0 ≤ n) (hn : n ≤ 9223372036854775807) : wire_Put.f 100 l n = some (l ++ enc 9 n) := by
  have hm : mx n 0 = n := by unfold mx; split <;> omega
  rw [put_ok l (by omega) n hn 100 (by omega), hm]
theorem itKd_bnd (d h : Bool) : 0 ≤ itKd d h ∧ itKd d h ≤ 2 := by cases d <;> cases h <;> decide
theorem put_item {I : It} (h : OkI I) (b : List Int) (hb : b.length < 50000) : itPut 100 b I = some (b ++ encI I) := by
  have e1 := enc_len 9 I.k
  have e2 := enc_len 9 (I.i.size : Int)
  have e3 := enc_len 9 I.q
  have e4 := enc_len 9 I.s
  have e5 := enc_len 9 (itKd I.d I.h)
  have e6 := enc_len 9 (I.x + 1000)
  have e7 := enc_len 9 (I.y + 1000)
  have b1 := bytesOf_length I.i
  have := h.i1; have := h.t1; have := h.k0; have := h.k1; have := h.q0; have := h.q1; have := h.s0; have := h.s1
  have := h.x0; have := h.x1; have := h.y0; have := h.y1
  have hk := itKd_bnd I.d I.h
  rw [itPut, right_ok h, Option.bind_some, if_neg (by decide), itPutR]
  rw [put_i b (by omega) I.k (by omega) (by omega), Option.bind_some]
  rw [puttext_ok _ (by rw [List.length_append]; omega) I.i (by omega) 100 (by omega), Option.bind_some]
  rw [P.putAll, put_i _ (by simp only [List.length_append]; omega) I.q (by omega) (by omega), Option.bind_some]
  rw [P.putAll, put_i _ (by simp only [List.length_append]; omega) I.s (by omega) (by omega), Option.bind_some]
  rw [P.putAll, put_i _ (by simp only [List.length_append]; omega) _ (by omega) (by omega), Option.bind_some, P.putAll, Option.bind_some]
  rw [encI, encT]
  by_cases hd : I.d = true
  · rw [if_pos hd, if_pos hd]
    simp only [List.append_assoc, List.append_nil]
  · rw [if_neg hd, if_neg hd, wrap_id (i := I.x + 1000) (by omega) (by omega), wrap_id (i := I.y + 1000) (by omega) (by omega)]
    rw [put_i _ (by simp only [List.length_append]; omega) _ (by omega) (by omega), Option.bind_some]
    rw [put_i _ (by simp only [List.length_append]; omega) _ (by omega) (by omega), Option.bind_some]
    by_cases hh : I.h = true
    · rw [if_pos hh, if_pos hh, puttext_ok _ (by simp only [List.length_append]; omega) I.t (by omega) 100 (by omega)]
      simp only [List.append_assoc]
    · rw [if_neg hh, if_neg hh]
      simp only [List.append_assoc, List.append_nil]
theorem adv {b u v : List Int} {a : Int} (ha : 0 ≤ a) (h : b.drop a.toNat = u ++ v) : b.drop (a + (u.length : Int)).toNat = v := by
  have e : (a + (u.length : Int)).toNat = a.toNat + u.length := by omega
  rw [e, ← List.drop_drop, h, List.drop_left]
theorem take_num (b : List Int) (a : Int) (ha : 0 ≤ a) (hl : a ≤ 100000) (x most : Int) (h0 : 0 ≤ x) (h1 : x ≤ most) (hm : most ≤ 9223372036854775807) (post : List Int) (hd : b.drop a.toNat = enc 9 x ++ post) : wire_Reader_Num.f 100 b a 0 most = some (x, a + (enc 9 x).length, 0) := by
  rw [num_enc b a ha (by omega) x most h0 (by omega) post hd 100 (by omega), if_neg (by omega)]
theorem take_item {I : It} (h : OkI I) (b : List Int) (a : Int) (ha : 0 ≤ a) (hal : a ≤ 50000) (post : List Int) (hd : b.drop a.toNat = encI I ++ post) : itTake 100 b a 0 = some (I, true, a + (encI I).length, 0) := by
  have e1 := enc_len 9 I.k
  have e2 := enc_len 9 (I.i.size : Int)
  have e3 := enc_len 9 I.q
  have e4 := enc_len 9 I.s
  have e5 := enc_len 9 (itKd I.d I.h)
  have e6 := enc_len 9 (I.x + 1000)
  have e7 := enc_len 9 (I.y + 1000)
  have b1 := bytesOf_length I.i
  have := h.i1; have := h.t1; have := h.k0; have := h.k1; have := h.q0; have := h.q1; have := h.s0; have := h.s1
  have := h.x0; have := h.x1; have := h.y0; have := h.y1
  have hk := itKd_bnd I.d I.h
  rw [encI] at hd
  simp only [List.append_assoc] at hd
  have n1 := take_num b a ha (by omega) I.k 31 (by omega) (by omega) (by omega) _ hd
  have d1 := adv ha hd
  have t1 := text_enc b (a + (enc 9 I.k).length) (by omega) (by omega) I.i (by omega) 6 (by omega) _ (by rw [List.append_assoc]; exact d1) 100 (by omega)
  have d2 := adv (by omega) d1
  have d3 := adv (by omega) d2
  rw [b1] at d3
  have n2 := take_num b (a + (enc 9 I.k).length + (enc 9 (I.i.size : Int)).length + I.i.size) (by omega) (by omega) I.q 1048576 (by omega) (by omega) (by omega) _ d3
  have d4 := adv (by omega) d3
  have n3 := take_num b _ (by omega) (by omega) I.s 1048576 (by omega) (by omega) (by omega) _ d4
  have d5 := adv (by omega) d4
  have n4 := take_num b _ (by omega) (by omega) (itKd I.d I.h) 2 (by omega) (by omega) (by omega) _ d5
  have d6 := adv (by omega) d5
  rw [itTake, n1, Option.bind_some]
  dsimp only
  rw [t1, Option.bind_some]
  dsimp only
  rw [n2, Option.bind_some]
  dsimp only
  rw [n3, Option.bind_some]
  dsimp only
  rw [n4, Option.bind_some]
  dsimp only
  have hlen : a + ((encI I).length : Int) = a + (enc 9 I.k).length + (enc 9 (I.i.size : Int)).length + I.i.size + (enc 9 I.q).length + (enc 9 I.s).length + (enc 9 (itKd I.d I.h)).length + (encT I).length := by
    rw [encI]
    simp only [List.length_append, b1]
    omega
  have a60 : 0 ≤ a + ((enc 9 I.k).length : Int) + ((enc 9 (I.i.size : Int)).length : Int) + (I.i.size : Int) + ((enc 9 I.q).length : Int) + ((enc 9 I.s).length : Int) + ((enc 9 (itKd I.d I.h)).length : Int) := by omega
  have a61 : a + ((enc 9 I.k).length : Int) + ((enc 9 (I.i.size : Int)).length : Int) + (I.i.size : Int) + ((enc 9 I.q).length : Int) + ((enc 9 I.s).length : Int) + ((enc 9 (itKd I.d I.h)).length : Int) ≤ 60000 := by omega
  rw [hlen]
  clear hlen n1 n2 n3 n4 t1 d1 d2 d3 d4 d5 hd
  generalize a + ((enc 9 I.k).length : Int) + ((enc 9 (I.i.size : Int)).length : Int) + (I.i.size : Int) + ((enc 9 I.q).length : Int) + ((enc 9 I.s).length : Int) + ((enc 9 (itKd I.d I.h)).length : Int) = c at d6 a60 a61 ⊢
  have hr := right_ok h
  obtain ⟨k, i, q, s, d, x, y, t, hh⟩ := I
  dsimp only at *
  have hend : ∀ c : Int, itEnd ⟨k, i, q, s, d, x, y, t, hh⟩ c 0 = some (⟨k, i, q, s, d, x, y, t, hh⟩, true, c, 0) := by
    intro c
    rw [itEnd, if_pos rfl, hr, Option.bind_some, if_pos rfl]
  cases d with
  | true =>
    obtain ⟨h1, h2, h3⟩ := h.d1 rfl
    dsimp only at h1 h2 h3
    subst h1; subst h2; subst h3
    have ht := h.h1 rfl
    dsimp only at ht
    subst ht
    have e : itKd true false = 0 := rfl
    rw [e, itSpot, if_pos rfl, Option.bind_some]
    dsimp only
    rw [itText, if_neg (by decide), Option.bind_some]
    dsimp only
    rw [encT, if_pos rfl]
    have := hend c
    simpa using this
  | false =>
    rw [encT, if_neg (show ¬ (false = true) by decide)] at d6 ⊢
    have hkd : itKd false hh ≠ 0 := by cases hh <;> decide
    dsimp only at d6
    simp only [List.append_assoc] at d6
    have p1 := take_num b c a60 (by omega) (x + 1000) 2000 (by omega) (by omega) (by omega) _ d6
    have d7 := adv a60 d6
    have p2 := take_num b (c + (enc 9 (x + 1000)).length) (by omega) (by omega) (y + 1000) 2000 (by omega) (by omega) (by omega) _ d7
    have d8 := adv (by omega) d7
    have q1 : itPart 100 b c 0 = some (x, c + (enc 9 (x + 1000)).length, 0) := by
      rw [itPart, p1, Option.bind_some]
      dsimp only
      rw [if_pos ⟨by omega, by omega⟩]
      congr 2
      omega
    have q2 : itPart 100 b (c + (enc 9 (x + 1000)).length) 0 = some (y, c + (enc 9 (x + 1000)).length + (enc 9 (y + 1000)).length, 0) := by
      rw [itPart, p2, Option.bind_some]
      dsimp only
      rw [if_pos ⟨by omega, by omega⟩]
      congr 2
      omega
    rw [itSpot, if_neg hkd, q1, Option.bind_some]
    dsimp only
    rw [q2, Option.bind_some, Option.bind_some]
    dsimp only
    cases hh with
    | true =>
      have e : itKd false true = 2 := rfl
      rw [if_pos rfl] at d8 ⊢
      have t2 := text_enc b (c + (enc 9 (x + 1000)).length + (enc 9 (y + 1000)).length) (by omega) (by omega) t (by omega) 16 (by omega) _ (by exact d8) 100 (by omega)
      rw [e, itText, if_pos rfl, t2, Option.bind_some]
      dsimp only
      have := hend (c + (enc 9 (x + 1000)).length + (enc 9 (y + 1000)).length + (enc 9 (t.size : Int)).length + t.size)
      have b2 := bytesOf_length t
      have el : c + (((enc 9 (x + 1000) ++ (enc 9 (y + 1000) ++ (enc 9 (t.size : Int) ++ bytesOf t))).length : Nat) : Int) = c + (enc 9 (x + 1000)).length + (enc 9 (y + 1000)).length + (enc 9 (t.size : Int)).length + t.size := by
        simp only [List.length_append, b2]; omega
      rw [el]
      exact this
    | false =>
      have e : itKd false false = 1 := rfl
      have ht := h.h1 rfl
      dsimp only at ht
      subst ht
      rw [e, itText, if_neg (by decide), Option.bind_some]
      dsimp only
      have := hend (c + (enc 9 (x + 1000)).length + (enc 9 (y + 1000)).length)
      rw [if_neg (by decide)]
      have el : c + (((enc 9 (x + 1000) ++ (enc 9 (y + 1000) ++ ([] : List Int))).length : Nat) : Int) = c + (enc 9 (x + 1000)).length + (enc 9 (y + 1000)).length := by
        simp only [List.length_append, List.length_nil]; omega
      rw [el]
      exact this
end Go.Proofs.Ytkmhanpamdgnjaa.Pure
