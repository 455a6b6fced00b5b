/- Numbers and texts as bytes: what Put lays, what Num and Text take of it, and what the document's answer takes. No condition beyond what each says. -/
import Derived.Test.YtkmhanpamdgnjaaTl
import Derived.Test.YtkmhanpamdgnjaaP2
import Derived.Test.YtkmhanpamdgnjaaP9
import Derived.Test.YtkmhanpamdgnjaaP7
namespace Go.Proofs.Ytkmhanpamdgnjaa.Pure
open Go.RowKit Go.Proofs.Ytkmhanpamdgnjaa Go.Proofs.Ytkmhanpamdgnjaa.P Go.Proofs.YtkmhanpamdgnjaaW.PrintWords Go.Proofs.YtkmhanpamdgnjaaW.PrintLast
set_option linter.unusedVariables false
/-- A number's bytes. -/
def enc : Nat → Int → List Int
  | 0, x => [x % 256]
  | f + 1, x => if x ≥ 128 then (x % 128 + 128) :: enc f (x / 128) else [x % 256]
theorem enc_len : ∀ (f : Nat) (x : Int), 1 ≤ (enc f x).length ∧ (enc f x).length ≤ f + 1
  | 0, x => by simp [enc]
  | f + 1, x => by
    rw [enc]
    split
    · have := enc_len f (x / 128)
      rw [List.length_cons]; omega
    · simp
theorem enc_small (f : Nat) (x : Int) (h : ¬ x ≥ 128) : enc f x = [x % 256] := by
  cases f with
  | zero => rfl
  | succ f => rw [enc, if_neg h]
theorem div_small (f : Nat) (x : Int) (h : x < 128 ^ (f + 1)) : x / 128 < 128 ^ f := by
  rw [Int.pow_succ] at h
  exact Int.ediv_lt_of_lt_mul (by omega) h
theorem or_bits_nat : ∀ y : Nat, y < 256 → Go.bits .or .u8 (y : Int) 128 = (y : Int) % 128 + 128 := by decide +kernel
theorem or_bits (x : Int) : Go.bits .or .u8 (x % 256) 128 = x % 128 + 128 := by
  have h := or_bits_nat (x % 256).toNat (by omega)
  rw [Int.toNat_of_nonneg (by omega)] at h
  rw [h]; omega
theorem put_loop : ∀ (f : Nat) (x : Int) (out : List Int) (k : Nat), 0 ≤ x → x < 128 ^ (f + 1) → f < k → out.length + f < 1000000 → wire_Put.l0 k x out = some (out ++ enc f x)
  | 0, x, out, k, h0, h1, hk, hl => by
    obtain ⟨k, rfl⟩ : ∃ m, k = m + 1 := ⟨k - 1, by omega⟩
    have h1' : x < 128 := h1
    simp only [wire_Put.l0]
    rw [if_neg (by omega), if_pos (by omega), enc]
  | f + 1, x, out, k, h0, h1, hk, hl => by
    obtain ⟨k, rfl⟩ : ∃ m, k = m + 1 := ⟨k - 1, by omega⟩
    simp only [wire_Put.l0]
    by_cases h : x ≥ 128
    · rw [if_pos h, if_pos (by omega), enc, if_pos h, or_bits, put_loop f (x / 128) (out ++ [x % 128 + 128]) k (by omega) (div_small (f + 1) x h1) (by omega) (by simp; omega), List.append_assoc]
      rfl
    · rw [if_neg h, if_pos (by omega), enc, if_neg h]
theorem clone6 (l : List Int) (h : l.length < 1000000) : slices_Clone_byte_byte.f l = some l := by
  simp only [slices_Clone_byte_byte.f, Option.bind_some, List.length_nil, List.nil_append]
  rw [if_pos (by omega)]
theorem put_ok (l : List Int) (hl : l.length < 100000) (n : Int) (hn : n ≤ 9223372036854775807) (k : Nat) (hk : 20 < k) : wire_Put.f k l n = some (l ++ enc 9 (mx n 0)) := by
  rw [wire_Put.f, clone6 l (by omega), Option.bind_some]
  exact put_loop 9 (mx n 0) l k (by unfold mx; split <;> omega) (by unfold mx; split <;> omega) (by omega) (by omega)
theorem rput_loop : ∀ (f : Nat) (x : Int) (out : List Int) (k : Nat), 0 ≤ x → x ≤ 9223372036854775807 → x < 128 ^ (f + 1) → f < k → out.length + f < 1000000 → cenotaphref06_Put.l0 k x out = some (out ++ enc f x)
  | 0, x, out, k, h0, hx, h1, hk, hl => by
    obtain ⟨k, rfl⟩ : ∃ m, k = m + 1 := ⟨k - 1, by omega⟩
    have h1' : x < 128 := h1
    simp only [cenotaphref06_Put.l0]
    rw [if_neg (by omega), if_pos (by omega), enc]
  | f + 1, x, out, k, h0, hx, h1, hk, hl => by
    obtain ⟨k, rfl⟩ : ∃ m, k = m + 1 := ⟨k - 1, by omega⟩
    simp only [cenotaphref06_Put.l0]
    have e1 : Int.tdiv x 128 = x / 128 := Int.tdiv_eq_ediv_of_nonneg h0
    have e2 : Int.tmod x 128 = x % 128 := Int.tmod_eq_emod_of_nonneg h0
    by_cases h : x ≥ 128
    · rw [if_pos h, if_pos (by omega), enc, if_pos h, e1, e2, wrap_id (i := x / 128) (by omega) (by omega), wrap_id (i := x % 128 + 128) (by omega) (by omega), show (x % 128 + 128) % 256 = x % 128 + 128 by omega, rput_loop f (x / 128) (out ++ [x % 128 + 128]) k (by omega) (by omega) (div_small (f + 1) x h1) (by omega) (by simp; omega), List.append_assoc]
      rfl
    · rw [if_neg h, if_pos (by omega), enc, if_neg h]
theorem rput_ok (l : List Int) (hl : l.length < 100000) (n : Int) (hn : n ≤ 9223372036854775807) (k : Nat) (hk : 20 < k) : cenotaphref06_Put.f k l n = some (l ++ enc 9 (mx n 0)) := by
  obtain ⟨k, rfl⟩ : ∃ m, k = m + 1 := ⟨k - 1, by omega⟩
  have key : ∀ y : Int, 0 ≤ y → y ≤ 9223372036854775807 → cenotaphref06_Put.j0 (k + 1) l y = some (l ++ enc 9 y) := by
    intro y h0 h1
    simp only [cenotaphref06_Put.j0, Option.bind_some, List.length_nil, List.nil_append]
    rw [if_pos (by omega)]
    exact rput_loop 9 y l k h0 h1 (by omega) (by omega) (by omega)
  rw [cenotaphref06_Put.f]
  by_cases h : n < 0
  · rw [if_pos h, key 0 (by omega) (by omega), mx, if_pos h]
  · rw [if_neg h, key n (by omega) (by omega), mx, if_neg h]
theorem puttext_ok (l : List Int) (hl : l.length < 100000) (s : ByteArray) (hs : s.size < 100000) (k : Nat) (hk : 20 < k) : wire_PutText.f k l s = some (l ++ enc 9 s.size ++ bytesOf s) := by
  have h1 := enc_len 9 (s.size : Int)
  have hm : mx (s.size : Int) 0 = s.size := by unfold mx; split <;> omega
  rw [wire_PutText.f, put_ok l hl s.size (by omega) k hk, Option.bind_some, hm, if_pos (by rw [List.length_append]; omega)]
theorem rputtext_ok (l : List Int) (hl : l.length < 100000) (s : ByteArray) (hs : s.size < 100000) (k : Nat) (hk : 20 < k) : cenotaphref06_PutText.f k l s = some (l ++ enc 9 s.size ++ bytesOf s) := by
  have h1 := enc_len 9 (s.size : Int)
  have hm : mx (s.size : Int) 0 = s.size := by unfold mx; split <;> omega
  rw [cenotaphref06_PutText.f, rput_ok l hl s.size (by omega) k hk, Option.bind_some, hm, if_pos (by rw [List.length_append]; omega)]
theorem wf_u8 {x : Int} (h : (Lit.int .u8 x).wf = true) : 0 ≤ x ∧ x < 256 := by
  simp only [Lit.wf, Bool.and_eq_true, decide_eq_true_eq] at h
  have h1 : (0 : Int) ≤ x := h.1
  have h2 : x ≤ 255 := h.2
  omega
/-- The head of what is left. -/
theorem rd_head {b : List Int} {i : Int} {c : Int} {t : List Int} (h0 : 0 ≤ i) (h : b.drop i.toNat = c :: t) : rd b i = c ∧ i < (b.length : Int) ∧ b.drop (i + 1).toNat = t := by
  have hlt : i.toNat < b.length := by
    rcases Nat.lt_or_ge i.toNat b.length with h1 | h1
    · exact h1
    · rw [List.drop_eq_nil_of_le h1] at h; cases h
  have e := drop_getD b 0 i.toNat hlt
  rw [h] at e
  have e2 : (i + 1).toNat = i.toNat + 1 := by omega
  rw [e2]
  refine ⟨?_, by omega, ?_⟩
  · rw [rd]; exact (List.cons.inj e).1.symm
  · exact (List.cons.inj e).2.symm
/-- The digits that Put lays are read. -/
theorem dig_enc (b : List Int) (a : Int) (ha : 0 ≤ a) (post : List Int) : ∀ (m : Nat) (x n z : Int), 0 ≤ x → x < 128 ^ m → z + m = 9 → 0 ≤ z → (x = 0 → z = 0) → b.drop (a + z).toNat = enc m x ++ post →
    digF b a (m + 1) n z = some (n + x * 128 ^ z.toNat, z + (enc m x).length, 0)
  | 0, x, n, z, h0, h1, hz, hz0, hx, hd => by
    have : x < 1 := h1
    have := hx (by omega)
    omega
  | m + 1, x, n, z, h0, h1, hz, hz0, hx, hd => by
    have h1' : x < 128 ^ (m + 1) := h1
    rw [digF, if_neg (by omega)]
    by_cases h : x ≥ 128
    · rw [enc, if_pos h, List.cons_append] at hd
      obtain ⟨e1, e2, e3⟩ := rd_head (by omega) hd
      rw [if_neg (by omega), e1, if_pos ⟨by omega, by omega, by omega, by omega⟩, if_pos (by omega)]
      have e4 : (x % 128 + 128 - 128) = x % 128 := by omega
      rw [e4, dig_enc b a ha post m (x / 128) _ (z + 1) (by omega) (div_small m x h1') (by omega) (by omega) (by omega) (by rw [show a + (z + 1) = a + z + 1 by omega]; exact e3)]
      rw [enc, if_pos h, List.length_cons]
      have e5 : (z + 1).toNat = z.toNat + 1 := by omega
      rw [e5, Int.pow_succ]
      congr 2
      · generalize (128 : Int) ^ z.toNat = p
        have e6 : x = x / 128 * 128 + x % 128 := by omega
        have e7 : x * p = x / 128 * (p * 128) + x % 128 * p := by
          conv => lhs; rw [e6, Int.add_mul]
          rw [Int.mul_assoc, Int.mul_comm 128 p]
        omega
      · congr 1
        omega
    · rw [enc, if_neg h, List.cons_append] at hd
      obtain ⟨e1, e2, e3⟩ := rd_head (by omega) hd
      have e4 : x % 256 = x := by omega
      rw [e4] at e1
      rw [if_neg (by omega), e1, if_pos ⟨by omega, by omega, by omega, by omega⟩, if_neg (by omega), enc, if_neg h]
      by_cases hx0 : x = 0
      · rw [if_neg (fun hh => by have := hx hx0; omega)]
        rfl
      · rw [if_neg (fun hh => hx0 hh.1)]
        rfl
/-- What the digits say. -/
def numR (a most : Int) (d : Int × Int × Int) : Int × Int × Int := if d.2.2 = 0 then (if d.1 > most then (0, a, 3) else (d.1, a + d.2.1, 0)) else (0, a, d.2.2)
/-- Digits are always told, of bytes. -/
theorem dig_some (b : List Int) (hb : ∀ x ∈ b, 0 ≤ x ∧ x < 256) (a : Int) (ha : 0 ≤ a) : ∀ (m : Nat) (n z : Int), z + m = 9 → 0 ≤ z → a + z ≤ b.length → 0 ≤ n → n < 128 ^ z.toNat →
    ∃ d, digF b a (m + 1) n z = some d ∧ (d.2.2 = 0 → ∃ x : Int, d.1 = n + x * 128 ^ z.toNat ∧ 0 ≤ x ∧ x < 128 ^ m ∧ (z ≠ 0 → x ≠ 0) ∧ d.2.1 = z + (enc m x).length ∧ a + d.2.1 ≤ b.length ∧ (b.drop (a + z).toNat).take (enc m x).length = enc m x)
  | 0, n, z, hz, hz0, hl, hn, hn2 => by
    rw [digF, if_pos (by omega)]
    exact ⟨_, rfl, fun h => by cases h⟩
  | m + 1, n, z, hz, hz0, hl, hn, hn2 => by
    rw [digF, if_neg (by omega)]
    by_cases he : a + z = b.length
    · rw [if_pos he]
      exact ⟨_, rfl, fun h => by cases h⟩
    · rw [if_neg he]
      have hlt : (a + z).toNat < b.length := by omega
      have hmem : rd b (a + z) ∈ b := by rw [rd]; exact getD_memZ hlt
      obtain ⟨c0, c1⟩ := hb _ hmem
      have hdrop := drop_getD b 0 (a + z).toNat hlt
      have hrd : b.getD (a + z).toNat 0 = rd b (a + z) := rfl
      rw [hrd] at hdrop
      generalize rd b (a + z) = c at c0 c1 hdrop
      rw [if_pos ⟨by omega, by omega, c0, c1⟩]
      have e5 : (z + 1).toNat = z.toNat + 1 := by omega
      have e6 : (a + (z + 1)).toNat = (a + z).toNat + 1 := by omega
      by_cases h : c ≥ 128
      · rw [if_pos h]
        obtain ⟨d, hd, hd2⟩ := dig_some b hb a ha m (n + (c - 128) * 128 ^ z.toNat) (z + 1) (by omega) (by omega) (by omega) (by
          have : 0 ≤ (c - 128) * 128 ^ z.toNat := Int.mul_nonneg (by omega) (Int.pow_nonneg (by omega))
          omega) (by
          rw [e5, Int.pow_succ]
          have h1 : (c - 128) * 128 ^ z.toNat ≤ 127 * 128 ^ z.toNat := Int.mul_le_mul_of_nonneg_right (by omega) (Int.pow_nonneg (by omega))
          omega)
        refine ⟨d, hd, fun hz2 => ?_⟩
        obtain ⟨x, x1, x2, x3, x4, x5, x6, x7⟩ := hd2 hz2
        have hx0 := x4 (by omega)
        have hge : x * 128 + (c - 128) ≥ 128 := by omega
        have hdm : (x * 128 + (c - 128)) / 128 = x := by omega
        have hmm : (x * 128 + (c - 128)) % 128 = c - 128 := by omega
        have hen : enc (m + 1) (x * 128 + (c - 128)) = c :: enc m x := by
          rw [enc, if_pos hge, hdm, hmm, show c - 128 + 128 = c by omega]
        refine ⟨x * 128 + (c - 128), ?_, by omega, ?_, fun _ => by omega, ?_, x6, ?_⟩
        · rw [x1, e5, Int.pow_succ]
          generalize (128 : Int) ^ z.toNat = p
          rw [Int.add_mul, Int.mul_assoc, Int.mul_comm p 128]
          omega
        · rw [Int.pow_succ]
          have : x * 128 + 128 ≤ 128 ^ m * 128 := by
            have : (x + 1) * 128 ≤ 128 ^ m * 128 := Int.mul_le_mul_of_nonneg_right (by omega) (by omega)
            omega
          omega
        · rw [hen, List.length_cons, x5]; omega
        · rw [hen, hdrop, List.length_cons, List.take_succ_cons]
          rw [e6] at x7
          rw [x7]
      · rw [if_neg h]
        by_cases hc : c = 0 ∧ 1 ≤ z
        · rw [if_pos hc]
          exact ⟨_, rfl, fun h => by cases h⟩
        · rw [if_neg hc]
          refine ⟨_, rfl, fun _ => ⟨c, rfl, c0, ?_, fun hz1 hc0 => hc ⟨hc0, by omega⟩, ?_, ?_, ?_⟩⟩
          · rw [Int.pow_succ]
            have : (1 : Int) ≤ 128 ^ m := by
              have := Int.pow_pos (n := (128 : Int)) (m := m) (by omega)
              omega
            omega
          · rw [enc_small _ _ h]; rfl
          · show a + (z + 1) ≤ _
            omega
          · rw [enc_small _ _ h, hdrop, show c % 256 = c by omega]
            rfl
theorem pow_le (i j : Nat) (h : i ≤ j) : (128 : Int) ^ i ≤ 128 ^ j := by
  induction h with
  | refl => exact Int.le_refl _
  | @step m h ih =>
    rw [Int.pow_succ]
    have h0 : (0 : Int) ≤ 128 ^ m := Int.pow_nonneg (by omega)
    omega
theorem num_eq (b : List Int) (a most : Int) (ha : 0 ≤ a) (hl : a ≤ 1000000) (k : Nat) (hk : 0 < k) (d : Int × Int × Int) (hd : digF b a 10 0 0 = some d) (hd9 : d.2.2 = 0 → 0 ≤ d.2.1 ∧ d.2.1 ≤ 9) : wire_Reader_Num.f k b a 0 most = some (numR a most d) := by
  obtain ⟨k, rfl⟩ : ∃ m, k = m + 1 := ⟨k - 1, by omega⟩
  obtain ⟨n, z, e⟩ := d
  rw [wire_Reader_Num.f, wire_Reader_Err.f, Option.bind_some]
  dsimp only
  rw [if_pos rfl, wire_Reader_digits.f, if_pos ⟨ha, by omega⟩, hd, Option.bind_some, Option.bind_some]
  dsimp only
  by_cases he : e = 0
  · subst he
    obtain ⟨z0, z1⟩ := hd9 rfl
    dsimp only at z0 z1
    rw [if_pos rfl, numR, if_pos rfl]
    simp only [wire_Reader_Num.j0]
    rw [wrap_id (i := a + z) (by omega) (by omega)]
    by_cases hm : n > most
    · rw [decide_eq_true hm, if_pos rfl, if_neg (by decide), if_pos hm]
    · rw [decide_eq_false hm, if_neg (by decide), if_neg hm]
      rfl
  · rw [if_neg he, numR, if_neg he]
    simp only [wire_Reader_Num.j0]
    rw [if_neg (by decide), if_neg he]
theorem num_err (b : List Int) (a e most : Int) (he : e ≠ 0) (k : Nat) : wire_Reader_Num.f k b a e most = some (0, a, e) := by
  rw [wire_Reader_Num.f, wire_Reader_Err.f, Option.bind_some]
  dsimp only
  rw [if_neg he]
/-- The document's Num takes the same digits. -/
theorem rnum_loop (b : List Int) (hb : ∀ x ∈ b, 0 ≤ x ∧ x < 256) (hbl : b.length < 1000000) (a most : Int) (ha : 0 ≤ a) (e0 : Int) (he0 : e0 = 0) : ∀ (m : Nat) (n z by_ : Int) (k : Nat), m < k → z + m = 9 → 0 ≤ z → a + z ≤ b.length → 0 ≤ n → n < 128 ^ z.toNat → (z ≠ 9 → by_ = 128 ^ z.toNat) →
    ∀ d, digF b a (m + 1) n z = some d → cenotaphref06_Reader_Num.l0 k most n by_ z b a e0 = some (numR a most d)
  | 0, n, z, by_, k, hk, hz, hz0, hl, hn, hn2, hby, d, hd => by
    obtain ⟨k, rfl⟩ : ∃ m, k = m + 1 := ⟨k - 1, by omega⟩
    rw [digF, if_pos (by omega)] at hd
    obtain rfl := Option.some.inj hd
    simp only [cenotaphref06_Reader_Num.l0]
    rw [if_pos (by omega), if_pos (by omega), numR, if_neg (by decide)]
  | m + 1, n, z, by_, k, hk, hz, hz0, hl, hn, hn2, hby, d, hd => by
    obtain ⟨k, rfl⟩ : ∃ m, k = m + 1 := ⟨k - 1, by omega⟩
    rw [digF, if_neg (by omega)] at hd
    simp only [cenotaphref06_Reader_Num.l0]
    rw [if_pos (by omega), if_neg (by omega), wrap_id (i := a + z) (by omega) (by omega)]
    by_cases he : a + z = b.length
    · rw [if_pos he] at hd
      obtain rfl := Option.some.inj hd
      rw [if_pos (by omega), numR, if_neg (by decide)]
    · rw [if_neg he] at hd
      have hlt : (a + z).toNat < b.length := by omega
      have hmem : rd b (a + z) ∈ b := by rw [rd]; exact getD_memZ hlt
      obtain ⟨c0, c1⟩ := hb _ hmem
      rw [if_neg (by omega), if_pos (by omega), if_pos (by omega)]
      generalize rd b (a + z) = c at c0 c1 hd ⊢
      rw [if_pos ⟨by omega, by omega, c0, c1⟩] at hd
      have hby' := hby (by omega)
      have e5 : (z + 1).toNat = z.toNat + 1 := by omega
      have hp1 : (128 : Int) ^ z.toNat ≤ 128 ^ 8 := pow_le _ _ (by omega)
      have hp2 : (1 : Int) ≤ 128 ^ z.toNat := by
        have := Int.pow_pos (n := (128 : Int)) (m := z.toNat) (by omega)
        omega
      rw [wrap_id (i := c) (by omega) (by omega)]
      have e2 : Int.tmod c 128 = c % 128 := Int.tmod_eq_emod_of_nonneg c0
      have hq0 : 0 ≤ c % 128 * 128 ^ z.toNat := Int.mul_nonneg (by omega) (by omega)
      have hq1 : c % 128 * 128 ^ z.toNat ≤ 127 * 128 ^ z.toNat := Int.mul_le_mul_of_nonneg_right (by omega) (by omega)
      rw [e2, hby', wrap_id (i := c % 128 * 128 ^ z.toNat) (by omega) (by omega), wrap_id (i := n + c % 128 * 128 ^ z.toNat) (by omega) (by omega)]
      by_cases h : c ≥ 128
      · rw [if_pos h] at hd ⊢
        have e4 : c - 128 = c % 128 := by omega
        rw [e4] at hd
        rw [wrap_id (i := z + 1) (by omega) (by omega)]
        refine rnum_loop b hb hbl a most ha e0 he0 m _ (z + 1) _ k (by omega) (by omega) (by omega) (by omega) (by omega) (by rw [e5, Int.pow_succ]; omega) (fun h9 => ?_) d hd
        have h7 : (128 : Int) ^ z.toNat ≤ 128 ^ 7 := pow_le _ _ (by omega)
        rw [e5, Int.pow_succ, wrap_id (by omega) (by omega)]
      · rw [if_neg h] at hd ⊢
        have e4 : c % 128 = c := by omega
        rw [e4]
        by_cases hc : c = 0
        · by_cases hz1 : z > 0
          · rw [if_pos ⟨hc, by omega⟩] at hd
            obtain rfl := Option.some.inj hd
            rw [if_pos hc, if_pos hz1, numR, if_neg (by decide)]
          · rw [if_neg (fun hh => by omega)] at hd
            obtain rfl := Option.some.inj hd
            rw [if_pos hc, if_neg hz1, numR, if_pos rfl, wrap_id (i := a + z + 1) (by omega) (by omega), he0, Int.add_assoc]
            split <;> rfl
        · rw [if_neg (fun hh => hc hh.1)] at hd
          obtain rfl := Option.some.inj hd
          rw [if_neg hc, numR, if_pos rfl, wrap_id (i := a + z + 1) (by omega) (by omega), he0, Int.add_assoc]
          split <;> rfl
theorem rnum_eq (b : List Int) (hb : ∀ x ∈ b, 0 ≤ x ∧ x < 256) (hbl : b.length < 1000000) (a most : Int) (ha : 0 ≤ a) (hl : a ≤ b.length) (k : Nat) (hk : 20 < k) (d : Int × Int × Int) (hd : digF b a 10 0 0 = some d) : cenotaphref06_Reader_Num.f k b a 0 most = some (numR a most d) := by
  rw [cenotaphref06_Reader_Num.f, if_pos rfl]
  exact rnum_loop b hb hbl a most ha 0 rfl 9 0 0 1 k (by omega) (by omega) (by omega) (by omega) (by omega) (by decide) (fun _ => rfl) d hd
theorem rnum_err (b : List Int) (a e most : Int) (he : e ≠ 0) (k : Nat) : cenotaphref06_Reader_Num.f k b a e most = some (0, a, e) := by
  rw [cenotaphref06_Reader_Num.f, if_neg he]
/-- Num at what Put laid. -/
theorem num_enc (b : List Int) (a : Int) (ha : 0 ≤ a) (hl : a ≤ 1000000) (x most : Int) (h0 : 0 ≤ x) (h1 : x ≤ 9223372036854775807) (post : List Int) (hd : b.drop a.toNat = enc 9 x ++ post) (k : Nat) (hk : 0 < k) :
    wire_Reader_Num.f k b a 0 most = some (if x > most then (0, a, 3) else (x, a + (enc 9 x).length, 0)) := by
  have h := dig_enc b a ha post 9 x 0 0 h0 (by omega) (by omega) (by omega) (fun _ => rfl) (by rw [Int.add_zero]; exact hd)
  have h9 : (enc 9 x).length ≤ 9 := by
    have key : ∀ (m : Nat) (y : Int), 0 ≤ y → y < 128 ^ (m + 1) → (enc (m + 1) y).length ≤ m + 1 := by
      intro m
      induction m with
      | zero => intro y h0 h1; rw [enc_small _ _ (by omega)]; simp
      | succ m ih =>
        intro y h0 h1
        rw [enc]
        split
        · rw [List.length_cons]
          have := ih (y / 128) (by omega) (div_small (m + 1) y h1)
          omega
        · simp
    exact key 8 x h0 (by omega)
  rw [num_eq b a most ha hl k hk _ h (fun _ => ⟨by dsimp only; omega, by dsimp only; omega⟩), numR, if_pos rfl]
  dsimp only
  rw [show (0 : Int).toNat = 0 from rfl, Int.pow_zero, Int.mul_one, Int.zero_add, Int.zero_add]
theorem str_bytes (s : ByteArray) : strOfNums (bytesOf s) = s := by
  have h : (strOfNums (bytesOf s)).data.toList = s.data.toList := by
    rw [strOfNums_data, bytesOf, List.map_map]
    conv => rhs; rw [← List.map_id s.data.toList]
    refine List.map_congr_left fun c _ => ?_
    show UInt8.ofNat ((c.toNat : Int)).toNat = c
    rw [Int.toNat_natCast]
    exact UInt8.ofNat_toNat
  have h2 : (strOfNums (bytesOf s)).data = s.data := Array.toList_inj.mp h
  cases s
  cases hs : strOfNums _
  rw [hs] at h2
  exact congrArg ByteArray.mk h2
/-- Text at what PutText laid. -/
theorem text_enc (b : List Int) (a : Int) (ha : 0 ≤ a) (hl : a ≤ 1000000) (s : ByteArray) (hs : s.size < 100000) (most : Int) (hm : (s.size : Int) ≤ most) (post : List Int) (hd : b.drop a.toNat = enc 9 s.size ++ bytesOf s ++ post) (k : Nat) (hk : 0 < k) :
    wire_Reader_Text.f k b a 0 most = some (s, a + (enc 9 s.size).length + s.size, 0) := by
  have hlen : b.length = a.toNat + (enc 9 (s.size : Int)).length + s.size + post.length ∨ b.length ≤ a.toNat := by
    rcases Nat.lt_or_ge a.toNat b.length with h | h
    · have := congrArg List.length hd
      rw [List.length_drop, List.length_append, List.length_append, bytesOf_length] at this
      omega
    · exact .inr h
  have hne : ¬ b.length ≤ a.toNat := by
    intro h
    rw [List.drop_eq_nil_of_le h] at hd
    have := congrArg List.length hd
    rw [List.length_append, List.length_append] at this
    have := (enc_len 9 (s.size : Int)).1
    rw [List.length_nil] at *
    omega
  have hlen := hlen.resolve_right hne
  rw [wire_Reader_Text.f, num_enc b a ha hl s.size most (by omega) (by omega) (bytesOf s ++ post) (by rw [hd, List.append_assoc]) k hk, if_neg (by omega), Option.bind_some]
  dsimp only
  rw [if_neg (by simp), if_pos ⟨by omega, by omega, by omega⟩, if_neg (by omega)]
  have e1 : (a + (enc 9 (s.size : Int)).length + (s.size : Int)).toNat = a.toNat + ((enc 9 (s.size : Int)).length + s.size) := by omega
  have e2 : (a + ((enc 9 (s.size : Int)).length : Int)).toNat = a.toNat + (enc 9 (s.size : Int)).length := by omega
  have e3 : (b.take (a.toNat + ((enc 9 (s.size : Int)).length + s.size))).drop (a.toNat + (enc 9 (s.size : Int)).length) = bytesOf s := by
    rw [List.drop_take, ← List.drop_drop, hd, List.append_assoc, List.drop_left, show a.toNat + ((enc 9 (s.size : Int)).length + s.size) - (a.toNat + (enc 9 (s.size : Int)).length) = (bytesOf s).length by rw [bytesOf_length]; omega, List.take_left]
  rw [e1, e2, e3, str_bytes]
end Go.Proofs.Ytkmhanpamdgnjaa.Pure
