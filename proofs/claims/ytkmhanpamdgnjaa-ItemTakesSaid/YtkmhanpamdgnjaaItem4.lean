/- Whatever the bytes: program and document take the same, and what is taken whole is what Put lays. No condition beyond what each says. -/
import Derived.Test.YtkmhanpamdgnjaaItem3
import Derived.Test.YtkmhanpamdgnjaaP7
namespace Go.Proofs.Ytkmhanpamdgnjaa.Pure
open Go.RowKit Go.Proofs.Ytkmhanpamdgnjaa Go.Proofs.Ytkmhanpamdgnjaa.P Go.Proofs.YtkmhanpamdgnjaaW.PrintWords Go.Proofs.YtkmhanpamdgnjaaW.PrintLast
set_option linter.unusedVariables false
theorem enc_le : ∀ (m : Nat) (y : Int), y < 128 ^ m → 0 < m → (enc m y).length ≤ m := by
  intro m
  induction m with
  | zero => intro y _ h; omega
  | succ m ih =>
    intro y hy _
    by_cases h0 : m = 0
    · subst h0
      rw [enc_small _ _ (by have : y < 128 := hy; omega)]; simp
    · rw [enc]
      split
      · rw [List.length_cons]
        have := ih (y / 128) (div_small m y hy) (by omega)
        omega
      · simp
/-- A number that both take. -/
theorem num_all (L : List Int) (hb : ∀ x ∈ L, 0 ≤ x ∧ x < 256) (hl : L.length ≤ 300) (a e m : Int) (ha : 0 ≤ a) (hal : a ≤ L.length) (hm : 0 ≤ m) : ∃ n a' e', wire_Reader_Num.f 100 L a e m = some (n, a', e') ∧ cenotaphref06_Reader_Num.f 100 L a e m = some (n, a', e') ∧ 0 ≤ n ∧ n ≤ m ∧ 0 ≤ a' ∧ a' ≤ L.length ∧ (e' = 0 → e = 0 ∧ L.drop a.toNat = enc 9 n ++ L.drop a'.toNat) := by
  by_cases he : e = 0
  · subst he
    obtain ⟨d, hd, hd2⟩ := dig_some L hb a ha 9 0 0 (by omega) (by omega) (by omega) (by omega) (by decide)
    obtain ⟨n, z, f⟩ := d
    have hd3 : f = 0 → 0 ≤ n ∧ 0 ≤ z ∧ z ≤ 9 ∧ a + z ≤ L.length ∧ z = (enc 9 n).length ∧ (L.drop a.toNat).take (enc 9 n).length = enc 9 n := by
      intro h0
      obtain ⟨x, x1, x2, x3, x4, x5, x6, x7⟩ := hd2 h0
      dsimp only at x1 x5 x6
      have h1 : n = x := by rw [x1]; simp
      subst h1
      have h9 := enc_le 9 n x3 (by omega)
      rw [Int.add_zero] at x7
      exact ⟨x2, by omega, by omega, x6, by omega, x7⟩
    have r1 := num_eq L a m ha (by omega) 100 (by omega) _ hd (fun h => ⟨(hd3 h).2.1, (hd3 h).2.2.1⟩)
    have r2 := rnum_eq L hb (by omega) a m ha hal 100 (by omega) _ hd
    rw [numR] at r1 r2
    dsimp only at r1 r2
    by_cases h0 : f = 0
    · obtain ⟨h1, h2, h3, h4, h5, h6⟩ := hd3 h0
      rw [if_pos h0] at r1 r2
      by_cases hg : n > m
      · rw [if_pos hg] at r1 r2
        exact ⟨_, _, _, r1, r2, by omega, by omega, ha, hal, fun h => by cases h⟩
      · rw [if_neg hg] at r1 r2
        refine ⟨_, _, _, r1, r2, h1, by omega, by omega, h4, fun _ => ⟨rfl, ?_⟩⟩
        have e1 : (a + z).toNat = a.toNat + (enc 9 n).length := by omega
        rw [e1, ← List.drop_drop]
        conv => lhs; rw [← List.take_append_drop (enc 9 n).length (L.drop a.toNat), h6]
    · rw [if_neg h0] at r1 r2
      exact ⟨_, _, _, r1, r2, by omega, hm, ha, hal, fun h => absurd h h0⟩
  · exact ⟨_, _, _, num_err L a e m he 100, rnum_err L a e m he 100, by omega, hm, ha, hal, fun h => absurd h he⟩
theorem bytes_str (l : List Int) (hl : ∀ x ∈ l, 0 ≤ x ∧ x < 256) : bytesOf (strOfNums l) = l := by
  rw [bytesOf, strOfNums_data, List.map_map]
  conv => rhs; rw [← List.map_id l]
  refine List.map_congr_left fun c hc => ?_
  obtain ⟨h0, h1⟩ := hl c hc
  show ((UInt8.ofNat c.toNat).toNat : Int) = c
  rw [UInt8.toNat_ofNat']
  omega
/-- A text that both take. -/
theorem text_all (L : List Int) (hb : ∀ x ∈ L, 0 ≤ x ∧ x < 256) (hl : L.length ≤ 300) (a e m : Int) (ha : 0 ≤ a) (hal : a ≤ L.length) (hm : 0 ≤ m) : ∃ s a' e', wire_Reader_Text.f 100 L a e m = some (s, a', e') ∧ cenotaphref06_Reader_Text.f 100 L a e m = some (s, a', e') ∧ 0 ≤ a' ∧ a' ≤ L.length ∧ (e' = 0 → e = 0 ∧ L.drop a.toNat = enc 9 s.size ++ bytesOf s ++ L.drop a'.toNat) := by
  obtain ⟨n, a1, e1, r1, r2, h0, h1, h2, h3, h4⟩ := num_all L hb hl a e m ha hal hm
  rw [wire_Reader_Text.f, cenotaphref06_Reader_Text.f, r1, r2, Option.bind_some]
  dsimp only
  by_cases he : e1 = 0
  · rw [if_neg (by simp [he]), if_pos ⟨h0, h2, h3⟩]
    obtain ⟨g1, g2⟩ := h4 he
    by_cases hg : n > (L.length : Int) - a1
    · rw [if_pos hg]
      exact ⟨_, _, _, rfl, rfl, h2, h3, fun h => by cases h⟩
    · rw [if_neg hg]
      have hsub : (L.take (a1 + n).toNat).drop a1.toNat = (L.drop a1.toNat).take n.toNat := by
        rw [List.drop_take]
        congr 1
        omega
      have hmem : ∀ x ∈ (L.take (a1 + n).toNat).drop a1.toNat, 0 ≤ x ∧ x < 256 := fun x hx => hb x (List.mem_of_mem_take (List.mem_of_mem_drop hx))
      have hlen : ((L.take (a1 + n).toNat).drop a1.toNat).length = n.toNat := by
        rw [hsub, List.length_take, List.length_drop]
        omega
      refine ⟨_, _, _, rfl, rfl, by omega, by omega, fun _ => ⟨g1, ?_⟩⟩
      have hsz : ((strOfNums ((L.take (a1 + n).toNat).drop a1.toNat)).size : Int) = n := by
        rw [strOfNums_size, hlen]; omega
      rw [hsz, bytes_str _ hmem, g2, List.append_assoc]
      congr 1
      have e2 : (a1 + n).toNat = a1.toNat + n.toNat := by omega
      rw [hsub]
      conv => lhs; rw [← List.take_append_drop n.toNat (L.drop a1.toNat)]
      rw [List.drop_drop, e2]
  · rw [if_pos he]
    exact ⟨_, _, _, rfl, rfl, h2, h3, fun h => absurd h he⟩
theorem part_all (L : List Int) (hb : ∀ x ∈ L, 0 ≤ x ∧ x < 256) (hl : L.length ≤ 300) (a e : Int) (ha : 0 ≤ a) (hal : a ≤ L.length) : ∃ n a' e', itPart 100 L a e = some (n, a', e') ∧ rfPart 100 L a e = some (n, a', e') ∧ -1000 ≤ n ∧ n ≤ 1000 ∧ 0 ≤ a' ∧ a' ≤ L.length ∧ (e' = 0 → e = 0 ∧ L.drop a.toNat = enc 9 (n + 1000) ++ L.drop a'.toNat) := by
  obtain ⟨n, a1, e1, r1, r2, h0, h1, h2, h3, h4⟩ := num_all L hb hl a e 2000 ha hal (by omega)
  refine ⟨n - 1000, a1, e1, ?_, ?_, by omega, by omega, h2, h3, ?_⟩
  · rw [itPart, r1, Option.bind_some]
    exact if_pos ⟨h0, h1⟩
  · rw [rfPart, r2, Option.bind_some]
    exact if_pos ⟨h0, h1⟩
  · intro h
    rw [show n - 1000 + 1000 = n by omega]
    exact h4 h
/-- An item that both take. -/
theorem take_all (L : List Int) (hb : ∀ x ∈ L, 0 ≤ x ∧ x < 256) (hl : L.length ≤ 300) : ∃ I ok a e, itTake 100 L 0 0 = some (I, ok, a, e) ∧ rfTake 100 L 0 0 = some (I, ok, a, e) ∧ I.ok ∧ (ok = true → OkI I ∧ ∃ r, L = encI I ++ r) := by
  obtain ⟨n1, a1, e1, p1, q1, b1, c1, d1, f1, g1⟩ := num_all L hb hl 0 0 31 (by omega) (by omega) (by omega)
  obtain ⟨t2, a2, e2, p2, q2, d2, f2, g2⟩ := text_all L hb hl a1 e1 6 d1 f1 (by omega)
  obtain ⟨n3, a3, e3, p3, q3, b3, c3, d3, f3, g3⟩ := num_all L hb hl a2 e2 1048576 d2 f2 (by omega)
  obtain ⟨n4, a4, e4, p4, q4, b4, c4, d4, f4, g4⟩ := num_all L hb hl a3 e3 1048576 d3 f3 (by omega)
  obtain ⟨n5, a5, e5, p5, q5, b5, c5, d5, f5, g5⟩ := num_all L hb hl a4 e4 2 d4 f4 (by omega)
  have hs : ∃ x y a6 e6, itSpot 100 L n5 a5 e5 = some (x, y, a6, e6) ∧ rfSpot 100 L n5 a5 e5 = some (x, y, a6, e6) ∧ -1000 ≤ x ∧ x ≤ 1000 ∧ -1000 ≤ y ∧ y ≤ 1000 ∧ 0 ≤ a6 ∧ a6 ≤ L.length ∧ (e6 = 0 → e5 = 0 ∧ L.drop a5.toNat = (if n5 = 0 then [] else enc 9 (x + 1000) ++ enc 9 (y + 1000)) ++ L.drop a6.toNat) ∧ (n5 = 0 → x = 0 ∧ y = 0) := by
    rw [itSpot, rfSpot]
    by_cases h0 : n5 = 0
    · rw [if_pos h0, if_neg (by omega)]
      exact ⟨0, 0, a5, e5, rfl, rfl, by omega, by omega, by omega, by omega, d5, f5, fun h => ⟨h, by rw [if_pos h0]; rfl⟩, fun _ => ⟨rfl, rfl⟩⟩
    · obtain ⟨x, ax, ex, p6, q6, b6, c6, d6, f6, g6⟩ := part_all L hb hl a5 e5 d5 f5
      obtain ⟨y, ay, ey, p7, q7, b7, c7, d7, f7, g7⟩ := part_all L hb hl ax ex d6 f6
      rw [if_neg h0, if_pos (by omega), p6, q6, Option.bind_some, Option.bind_some]
      dsimp only
      rw [p7, q7, Option.bind_some]
      refine ⟨x, y, ay, ey, rfl, rfl, b6, c6, b7, c7, d7, f7, fun h => ?_, fun h => absurd h h0⟩
      obtain ⟨h1, h2⟩ := g7 h
      obtain ⟨h3, h4⟩ := g6 h1
      exact ⟨h3, by rw [if_neg h0, h4, h2, List.append_assoc]⟩
  obtain ⟨x, y, a6, e6, p6, q6, x0, x1, y0, y1, d6, f6, g6, z6⟩ := hs
  have ht : ∃ t a7 e7, itText 100 L n5 a6 e6 = some (t, a7, e7) ∧ rfText 100 L n5 a6 e6 = some (t, a7, e7) ∧ (e7 = 0 → e6 = 0 ∧ L.drop a6.toNat = (if n5 = 2 then enc 9 t.size ++ bytesOf t else []) ++ L.drop a7.toNat) := by
    rw [itText, rfText]
    by_cases h2 : n5 = 2
    · obtain ⟨t, a7, e7, p7, q7, d7, f7, g7⟩ := text_all L hb hl a6 e6 16 d6 f6 (by omega)
      rw [if_pos h2, if_pos h2]
      exact ⟨t, a7, e7, p7, q7, by rw [if_pos h2]; exact g7⟩
    · rw [if_neg h2, if_neg h2]
      exact ⟨_, a6, e6, rfl, rfl, fun h => ⟨h, by rw [if_neg h2]; rfl⟩⟩
  obtain ⟨t, a7, e7, p7, q7, g7⟩ := ht
  rw [itTake, rfTake, p1, q1, Option.bind_some, Option.bind_some]
  dsimp only
  rw [p2, q2, Option.bind_some, Option.bind_some]
  dsimp only
  rw [p3, q3, Option.bind_some, Option.bind_some]
  dsimp only
  rw [p4, q4, Option.bind_some, Option.bind_some]
  dsimp only
  rw [p5, q5, Option.bind_some, Option.bind_some]
  dsimp only
  rw [p6, q6, Option.bind_some, Option.bind_some]
  dsimp only
  rw [p7, q7, Option.bind_some, Option.bind_some]
  dsimp only
  have hz : It.zero.ok := ⟨by decide, by decide⟩
  have hio : It.ok ⟨n1, t2, n3, n4, n5 == 0, x, y, t, n5 == 2⟩ := ⟨by show x.natAbs < _; omega, by show y.natAbs < _; omega⟩
  rw [itEnd, rfEnd]
  by_cases he : e7 = 0
  rotate_left
  · rw [if_neg he, if_neg he]
    exact ⟨_, _, _, _, rfl, rfl, hz, fun h => by cases h⟩
  rw [if_pos he, if_pos he, right_prog, It.rright, right_ref ⟨n1, t2, n3, n4, n5 == 0, x, y, t, n5 == 2⟩ 100 rfl, Option.bind_some]
  cases hr : rightI ⟨n1, t2, n3, n4, n5 == 0, x, y, t, n5 == 2⟩ with
  | false =>
    rw [if_neg (show ¬ (false = true) by decide)]
    exact ⟨_, _, _, _, rfl, rfl, hz, fun h => by cases h⟩
  | true =>
    rw [if_pos rfl]
    refine ⟨_, _, _, _, rfl, rfl, hio, fun _ => ⟨right_okI hr, L.drop a7.toNat, ?_⟩⟩
    obtain ⟨v6, w7⟩ := g7 he
    obtain ⟨v5, w6⟩ := g6 v6
    obtain ⟨v4, w5⟩ := g5 v5
    obtain ⟨v3, w4⟩ := g4 v4
    obtain ⟨v2, w3⟩ := g3 v3
    obtain ⟨v1, w2⟩ := g2 v2
    obtain ⟨-, w1⟩ := g1 v1
    rw [show (0 : Int).toNat = 0 from rfl, List.drop_zero] at w1
    have hk : itKd (n5 == 0) (n5 == 2) = n5 := by
      rw [itKd]
      by_cases h0 : n5 = 0
      · subst h0; rfl
      · by_cases h2 : n5 = 2
        · subst h2; rfl
        · have : n5 = 1 := by omega
          subst this; rfl
    rw [encI]
    dsimp only
    rw [hk]
    conv => lhs; rw [w1, w2, w3, w4, w5, w6, w7]
    rw [encT]
    dsimp only
    by_cases h0 : n5 = 0
    · subst h0
      simp only [List.append_assoc]
      rfl
    · have e0 : (n5 == 0) = false := beq_eq_false_iff_ne.mpr h0
      rw [e0, if_neg (show ¬ (false = true) by decide), if_neg h0]
      by_cases h2 : n5 = 2
      · have e2 : (n5 == 2) = true := beq_iff_eq.mpr h2
        rw [e2, if_pos rfl, if_pos h2]
        simp only [List.append_assoc]
      · have e2 : (n5 == 2) = false := beq_eq_false_iff_ne.mpr h2
        rw [e2, if_neg (show ¬ (false = true) by decide), if_neg h2]
        simp only [List.append_assoc, List.append_nil, List.nil_append]
end Go.Proofs.Ytkmhanpamdgnjaa.Pure
