/- WirePuts: numbers and texts are laid as the document says, and taken again. No condition beyond the statement's own. -/
import Derived.Test.YtgkcdmhndplejaaWire1
import Derived.Test.YtgkcdmhndplejaaP4
import Derived.Test.YtgkcdmhndplejaaGoalWirePuts
namespace Go.Proofs.Ytgkcdmhndplejaa.Pure
open Go.RowKit Go.Proofs.Ytgkcdmhndplejaa Go.Proofs.Ytgkcdmhndplejaa.P Go.Proofs.YtgkcdmhndplejaaW.PrintWords Go.Proofs.YtgkcdmhndplejaaW.PrintLast
set_option linter.unusedVariables false
/-- The numbers' bytes, the ith on; the texts'. -/
def encN (n : List Int) : Nat → Nat → List Int
  | 0, _ => []
  | m + 1, i => if i < n.length ∧ i < 40 then enc 9 (mx (rd n (i : Int)) 0) ++ encN n m (i + 1) else []
def encS (s : List ByteArray) : Nat → Nat → List Int
  | 0, _ => []
  | m + 1, i => if i < s.length ∧ i < 20 then enc 9 (rdOf ByteArray.empty s (i : Int)).size ++ bytesOf (rdOf ByteArray.empty s (i : Int)) ++ encS s m (i + 1) else []
/-- Is each text short? -/
def shortS (s : List ByteArray) : Nat → Nat → Prop
  | 0, _ => True
  | m + 1, i => i < s.length ∧ i < 20 → (rdOf ByteArray.empty s (i : Int)).size ≤ 300 ∧ shortS s m (i + 1)
theorem puts_l3 (s : List ByteArray) (b : List Int) (hbl : b.length < 100000) : ∀ (m i : Nat) (a : Int), 21 ≤ m + i → 0 < m → 0 ≤ a → a ≤ b.length → shortS s m i → b.drop a.toNat = encS s m i → cenotaphlaw06_WirePuts.l3 100 s b m i a 0 = some true
  | 0, i, a, hi, hm, ha, hal, hs, hd => absurd hm (by omega)
  | m + 1, i, a, hi, hm, ha, hal, hs, hd => by
    rw [cenotaphlaw06_WirePuts.l3]
    rw [encS] at hd
    by_cases hc : i < s.length ∧ i < 20
    · rw [if_pos hc] at hd ⊢
      obtain ⟨hs1, hs2⟩ := hs hc
      generalize rdOf ByteArray.empty s (i : Int) = x at hd hs1
      rw [text_enc b a ha (by omega) x (by omega) 300 (by omega) _ hd 100 (by omega), Option.bind_some]
      dsimp only
      rw [if_pos rfl]
      have hlen := congrArg List.length hd
      have hbo := bytesOf_length x
      rw [List.length_drop, List.length_append, List.length_append, hbo] at hlen
      have hl1 := (enc_len 9 (x.size : Int)).1
      refine puts_l3 s b hbl m (i + 1) _ (by omega) (by omega) (by omega) (by omega) hs2 ?_
      have e1 : (a + ((enc 9 (x.size : Int)).length : Int) + (x.size : Int)).toNat = a.toNat + (enc 9 (x.size : Int) ++ bytesOf x).length := by rw [List.length_append, hbo]; omega
      rw [e1, ← List.drop_drop, hd, List.drop_left]
    · rw [if_neg hc] at hd ⊢
      have hlen := congrArg List.length hd
      rw [List.length_drop, List.length_nil] at hlen
      rw [if_neg (fun h => by omega)]
      rfl
theorem puts_l2 (n : List Int) (hn : ∀ x ∈ n, x ≤ 9223372036854775807) (s : List ByteArray) (b : List Int) (hbl : b.length < 100000) (hs : shortS s 21 0) : ∀ (m i : Nat) (a : Int), 41 ≤ m + i → 0 < m → 0 ≤ a → a ≤ b.length → b.drop a.toNat = encN n m i ++ encS s 21 0 → cenotaphlaw06_WirePuts.l2 100 n s b m i a 0 = some true
  | 0, i, a, hi, hm, ha, hal, hd => absurd hm (by omega)
  | m + 1, i, a, hi, hm, ha, hal, hd => by
    rw [cenotaphlaw06_WirePuts.l2]
    rw [encN] at hd
    by_cases hc : i < n.length ∧ i < 40
    · rw [if_pos hc] at hd ⊢
      have hx : rd n (i : Int) ≤ 9223372036854775807 := hn _ (by rw [rd_int]; exact getD_memZ hc.1)
      generalize rd n (i : Int) = x at hd hx ⊢
      have hy0 : 0 ≤ mx x 0 := by unfold mx; split <;> omega
      have hy1 : mx x 0 ≤ 9223372036854775807 := by unfold mx; split <;> omega
      generalize mx x 0 = y at hd hy0 hy1 ⊢
      rw [List.append_assoc] at hd
      rw [num_enc b a ha (by omega) y _ hy0 hy1 _ hd 100 (by omega), if_neg (by omega), Option.bind_some]
      dsimp only
      rw [if_pos rfl]
      have hlen := congrArg List.length hd
      rw [List.length_drop, List.length_append] at hlen
      have hl1 := (enc_len 9 y).1
      refine puts_l2 n hn s b hbl hs m (i + 1) _ (by omega) (by omega) (by omega) (by omega) ?_
      have e1 : (a + ((enc 9 y).length : Int)).toNat = a.toNat + (enc 9 y).length := by omega
      rw [e1, ← List.drop_drop, hd, List.drop_left]
    · rw [if_neg hc] at hd ⊢
      exact puts_l3 s b hbl 21 0 a (by omega) (by omega) ha hal hs (by rw [hd]; rfl)
theorem encS_len (s : List ByteArray) : ∀ (m i : Nat), shortS s m i → (encS s m i).length ≤ 310 * m
  | 0, i, h => by simp [encS]
  | m + 1, i, h => by
    rw [encS]
    split
    · rename_i hc
      obtain ⟨h1, h2⟩ := h hc
      have := encS_len s m (i + 1) h2
      have := enc_len 9 ((rdOf ByteArray.empty s (i : Int)).size : Int)
      have := bytesOf_length (rdOf ByteArray.empty s (i : Int))
      rw [List.length_append, List.length_append]
      omega
    · simp
theorem encN_len (n : List Int) : ∀ (m i : Nat), (encN n m i).length ≤ 10 * m
  | 0, i => by simp [encN]
  | m + 1, i => by
    rw [encN]
    split
    · have := encN_len n m (i + 1)
      have := enc_len 9 (mx (rd n (i : Int)) 0)
      rw [List.length_append]
      omega
    · simp
theorem puts_l1 (n : List Int) (hn : ∀ x ∈ n, x ≤ 9223372036854775807) (s : List ByteArray) : ∀ (m i : Nat) (b : List Int), 21 ≤ m + i → 0 < m → b.length ≤ 410 + 310 * (21 - m) → m ≤ 21 →
    (shortS s m i → (shortS s 21 0 ∧ b ++ encS s m i = encN n 41 0 ++ encS s 21 0)) → cenotaphlaw06_WirePuts.l1 100 n s m i b b = some true
  | 0, i, b, hi, hm, hbl, hm2, hs => absurd hm (by omega)
  | m + 1, i, b, hi, hm, hbl, hm2, hs => by
    rw [cenotaphlaw06_WirePuts.l1]
    by_cases hc : i < s.length ∧ i < 20
    · rw [if_pos hc]
      by_cases h3 : 300 < ((rdOf ByteArray.empty s (i : Int)).size : Int)
      · rw [if_pos h3]
      · rw [if_neg h3, puttext_ok b (by omega) _ (by omega) 100 (by omega), rputtext_ok b (by omega) _ (by omega) 100 (by omega), Option.bind_some, Option.bind_some]
        refine puts_l1 n hn s m (i + 1) _ (by omega) (by omega) ?_ (by omega) (fun h => ?_)
        · have := enc_len 9 ((rdOf ByteArray.empty s (i : Int)).size : Int)
          have := bytesOf_length (rdOf ByteArray.empty s (i : Int))
          rw [List.length_append, List.length_append]
          omega
        · obtain ⟨g1, g2⟩ := hs (fun _ => ⟨by omega, h⟩)
          refine ⟨g1, ?_⟩
          rw [← g2, encS, if_pos hc, List.append_assoc, List.append_assoc, List.append_assoc]
    · rw [if_neg hc, if_pos rfl, if_pos (by omega)]
      obtain ⟨g1, g2⟩ := hs (fun h => absurd h hc)
      rw [encS, if_neg hc, List.append_nil] at g2
      exact puts_l2 n hn s b (by omega) g1 41 0 0 (by omega) (by omega) (by omega) (by omega) (by rw [← g2]; rfl)
theorem puts_l0 (n : List Int) (hn : ∀ x ∈ n, x ≤ 9223372036854775807) (s : List ByteArray) : ∀ (m i : Nat) (b : List Int), 41 ≤ m + i → 0 < m → b.length ≤ 10 * (41 - m) → m ≤ 41 → b ++ encN n m i = encN n 41 0 → cenotaphlaw06_WirePuts.l0 100 n s m i b b = some true
  | 0, i, b, hi, hm, hbl, hm2, he => absurd hm (by omega)
  | m + 1, i, b, hi, hm, hbl, hm2, he => by
    rw [cenotaphlaw06_WirePuts.l0]
    rw [encN] at he
    by_cases hc : i < n.length ∧ i < 40
    · rw [if_pos hc] at he ⊢
      have hx : rd n (i : Int) ≤ 9223372036854775807 := hn _ (by rw [rd_int]; exact getD_memZ hc.1)
      rw [put_ok b (by omega) _ hx 100 (by omega), rput_ok b (by omega) _ hx 100 (by omega), Option.bind_some, Option.bind_some]
      have := enc_len 9 (mx (rd n (i : Int)) 0)
      exact puts_l0 n hn s m (i + 1) _ (by omega) (by omega) (by rw [List.length_append]; omega) (by omega) (by rw [List.append_assoc]; exact he)
    · rw [if_neg hc] at he ⊢
      rw [List.append_nil] at he
      exact puts_l1 n hn s 21 0 b (by omega) (by omega) (by omega) (by omega) (fun h => ⟨h, by rw [he]⟩)
theorem WirePuts : cenotaphlaw06_WirePuts.Pure := by
  intro l0 l1 _ h0 _ _
  refine ⟨100, ?_⟩
  rw [cenotaphlaw06_WirePuts.f]
  exact puts_l0 l0 (fun x hx => (wf_int (h0 x hx)).2) l1 41 0 [] (by omega) (by omega) (by simp) (by omega) rfl
end Go.Proofs.Ytgkcdmhndplejaa.Pure
