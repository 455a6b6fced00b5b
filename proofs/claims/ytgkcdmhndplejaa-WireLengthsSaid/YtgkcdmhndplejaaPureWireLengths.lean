/- WireLengths: a number has a byte for each seven of its bits, one at least; a text one more each byte. No condition beyond the statement's own. -/
import Derived.Test.YtgkcdmhndplejaaTl
import Derived.Test.YtgkcdmhndplejaaP1
import Derived.Test.YtgkcdmhndplejaaP8
namespace Go.Proofs.Ytgkcdmhndplejaa.Pure
open Go.RowKit Go.Proofs.Ytgkcdmhndplejaa Go.Proofs.Ytgkcdmhndplejaa.P Go.Proofs.YtgkcdmhndplejaaW.PrintWords Go.Proofs.YtgkcdmhndplejaaW.PrintLast
set_option linter.unusedVariables false
/-- A number's bytes, less than 128 to the (f + 1)th. -/
def nd : Nat → Int → Nat
  | 0, _ => 1
  | f + 1, x => if x ≥ 128 then nd f (x / 128) + 1 else 1
theorem nd_small (f : Nat) (x : Int) (h : ¬ x ≥ 128) : nd f x = 1 := by
  cases f with
  | zero => rfl
  | succ f => rw [nd, if_neg h]
theorem div_small (f : Nat) (x : Int) (h : x < 128 ^ (f + 1 + 1)) : x / 128 < 128 ^ (f + 1) := by
  rw [Int.pow_succ] at h
  exact Int.ediv_lt_of_lt_mul (by omega) h
theorem put_loop : ∀ (f : Nat) (x : Int) (out : List Int) (k : Nat), 0 ≤ x → x < 128 ^ (f + 1) → f < k → out.length + f < 100000 → ∃ t, wire_Put.l0 k x out = some (out ++ t) ∧ t.length = nd f x
  | 0, x, out, k, h0, h1, hk, hl => by
    obtain ⟨k, rfl⟩ : ∃ m, k = m + 1 := ⟨k - 1, by omega⟩
    have h1' : x < 128 := h1
    simp only [wire_Put.l0]
    rw [if_neg (by omega), if_pos (by omega)]
    exact ⟨_, rfl, rfl⟩
  | f + 1, x, out, k, h0, h1, hk, hl => by
    obtain ⟨k, rfl⟩ : ∃ m, k = m + 1 := ⟨k - 1, by omega⟩
    simp only [wire_Put.l0]
    by_cases h : x ≥ 128
    · rw [if_pos h, if_pos (by omega), nd, if_pos h]
      obtain ⟨t, e, et⟩ := put_loop f (x / 128) (out ++ [Go.bits .or .u8 (x % 256) 128]) k (by omega) (div_small f x h1) (by omega) (by simp; omega)
      exact ⟨[Go.bits .or .u8 (x % 256) 128] ++ t, by rw [e, List.append_assoc], by simp [et]⟩
    · rw [if_neg h, if_pos (by omega), nd, if_neg h]
      exact ⟨_, rfl, rfl⟩
theorem clone6 (l : List Int) (h : l.length < 100000) : slices_Clone_byte_byte.f l = some l := by
  simp only [slices_Clone_byte_byte.f, Option.bind_some, List.length_nil, List.nil_append]
  rw [if_pos (by omega)]
theorem put_ok (l : List Int) (hl : l.length < 1000) (n : Int) (hn : n ≤ 9223372036854775807) (k : Nat) (hk : 20 < k) : ∃ t, wire_Put.f k l n = some (l ++ t) ∧ t.length = nd 9 (mx n 0) := by
  obtain ⟨t, e, et⟩ := put_loop 9 (mx n 0) l k (by unfold mx; split <;> omega) (by unfold mx; split <;> omega) (by omega) (by omega)
  exact ⟨t, by rw [wire_Put.f, clone6 l (by omega), Option.bind_some]; exact e, et⟩
theorem nd_size (s : Int) (h0 : 128 ≤ s) (h1 : s ≤ 5000) : nd 9 s = 2 := by
  rw [nd, if_pos (by omega), nd_small 8 _ (by omega)]
theorem wl_loop (n : Int) (hn : n ≤ 9223372036854775807) (s : ByteArray) : ∀ (f : Nat) (x5 x6 : Int) (k : Nat), 0 ≤ x6 → x6 ≤ 9223372036854775807 → x6 < 128 ^ (f + 1) → 0 ≤ x5 → x5 + f < 1000 → f + 100 < k → x5 + nd f x6 = 1 + nd 9 (mx n 0) → cenotaphlaw06_WireLengths.l0 k n s x5 x6 = some true := by
  have fin : ∀ (x5 x6 : Int) (k : Nat), ¬ x6 ≥ 128 → 0 ≤ x5 → x5 < 1000 → 50 < k → x5 = nd 9 (mx n 0) → cenotaphlaw06_WireLengths.l0 (k + 1) n s x5 x6 = some true := by
    intro x5 x6 k h h0 h1 hk he
    have ht : cenotaphlaw06_told.f = some true := rfl
    simp only [cenotaphlaw06_WireLengths.l0]
    rw [if_neg h]
    by_cases hs : (s.size : Int) > 5000
    · rw [if_pos hs, ht]; rfl
    · obtain ⟨t, e, et⟩ := put_ok [9] (by decide) n hn k (by omega)
      obtain ⟨t2, e2, et2⟩ := put_ok [] (by decide) (s.size : Int) (by omega) k (by omega)
      have e3 : wire_PutText.f k [] s = some (t2 ++ bytesOf s) := by
        have hb : t2.length < 1000 := by
          rw [et2]; unfold mx
          split
          · rw [nd_small 9 0 (by omega)]; omega
          · by_cases hb : (s.size : Int) ≥ 128
            · rw [nd_size _ hb (by omega)]; omega
            · rw [nd_small 9 _ hb]; omega
        rw [wire_PutText.f, e2, Option.bind_some, List.nil_append, if_pos (by omega)]
      have hlb : (bytesOf s).length = s.size := bytesOf_length s
      have hmx : mx (s.size : Int) 0 = s.size := by unfold mx; split <;> omega
      rw [hmx] at et2
      have hw : wrap64 (1 + x5) = 1 + x5 := wrap_id (by omega) (by omega)
      by_cases hb : (s.size : Int) ≥ 128
      · rw [nd_size _ hb (by omega)] at et2
        rw [if_pos hb, e, Option.bind_some, e3, Option.bind_some, ht, if_neg hs, Option.bind_some, if_pos rfl, hw, if_pos (by simp [et]; omega), if_pos (by simp), if_pos (by rfl), wrap_id (by omega) (by omega)]
        congr 1
        rw [beq_iff_eq, List.length_append, hlb, et2]; omega
      · rw [nd_small 9 _ hb] at et2
        rw [if_neg hb, e, Option.bind_some, e3, Option.bind_some, ht, if_neg hs, Option.bind_some, if_pos rfl, hw, if_pos (by simp [et]; omega), if_pos (by simp), if_pos (by rfl), wrap_id (by omega) (by omega)]
        congr 1
        rw [beq_iff_eq, List.length_append, hlb, et2]; omega
  intro f
  induction f with
  | zero =>
    intro x5 x6 k h0 hx h1 h2 h3 hk he
    obtain ⟨k, rfl⟩ : ∃ m, k = m + 1 := ⟨k - 1, by omega⟩
    have h1' : x6 < 128 := h1
    have hn0 : nd 0 x6 = 1 := rfl
    exact fin x5 x6 k (by omega) h2 (by omega) (by omega) (by omega)
  | succ f ih =>
    intro x5 x6 k h0 hx h1 h2 h3 hk he
    obtain ⟨k, rfl⟩ : ∃ m, k = m + 1 := ⟨k - 1, by omega⟩
    by_cases h : x6 ≥ 128
    · rw [nd, if_pos h] at he
      simp only [cenotaphlaw06_WireLengths.l0]
      have e1 : Int.tdiv x6 128 = x6 / 128 := Int.tdiv_eq_ediv_of_nonneg h0
      have hle : x6 / 128 ≤ x6 := by omega
      rw [if_pos h, e1]
      have hbound : x6 / 128 < 128 ^ (f + 1) := div_small f x6 h1
      rw [wrap_id (i := x5 + 1) (by omega) (by omega), wrap_id (i := x6 / 128) (by omega) (by omega)]
      exact ih (x5 + 1) (x6 / 128) k (by omega) (by omega) hbound (by omega) (by omega) (by omega) (by omega)
    · rw [nd_small _ _ h] at he
      exact fin x5 x6 k h h2 (by omega) (by omega) (by omega)
theorem WireLengths : cenotaphlaw06_WireLengths.Pure := by
  intro n s hn hs
  have := wf_int hn
  refine ⟨1000, ?_⟩
  unfold cenotaphlaw06_WireLengths.f
  exact wl_loop n (by omega) s 9 1 (mx n 0) 1000 (by unfold mx; split <;> omega) (by unfold mx; split <;> omega) (by unfold mx; split <;> omega) (by omega) (by omega) (by omega) rfl
end Go.Proofs.Ytgkcdmhndplejaa.Pure
