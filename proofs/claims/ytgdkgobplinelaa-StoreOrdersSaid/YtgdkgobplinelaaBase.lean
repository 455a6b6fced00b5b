import Derived.Lib.ConvBytes
import Derived.Lib.Bytealg
import Derived.Lib.Strings
import Derived.Below
import Derived.Deep.Draws
/- Plain words on ids: what a right id is; no program in sight. -/
namespace Go.Proofs.Ytgdkgobplinelaa
open Go.RowKit
set_option linter.unusedVariables false
/-- A digit that an id may have behind its first sign. -/
def okDigit (c : UInt8) : Bool := 49 ≤ c && c ≤ 57
/-- May a text be an id? -/
def rightB (a : ByteArray) : Bool := ({ data := #[48] } : ByteArray).data.toList.isPrefixOf a.data.toList && decide (a.size ≤ 6) && (a.extract 1 a.size).data.toList.all okDigit
theorem u8_digit {c : UInt8} (h : okDigit c = true) : decide ((c.toNat : Int) ≤ 48) = false ∧ decide ((57 : Int) < c.toNat) = false := by
  simp [okDigit, UInt8.le_iff_toNat_le] at h; simp; omega
theorem u8_nodigit {c : UInt8} (h : ¬ okDigit c = true) : (c.toNat : Int) ≤ 48 ∨ (57 : Int) < c.toNat := by
  simp [okDigit, UInt8.le_iff_toNat_le] at h; omega
theorem below_bytesWorldN (w : World) (n : Nat) (e : TypeId) (s : ByteArray) : Below w.heap.size w (Lib.bytesWorld (w.drewN n) e s) :=
  ⟨rfl, rfl, rfl, by rw [Lib.bytesWorld_size]; exact Nat.le_succ _, fun k hk => Lib.bytesWorld_at_old (w.drewN n) e s k hk⟩

/-! Byte strings in order. -/
theorem cmp_self : ∀ a : List UInt8, Lib.compareBytes a a = 0
  | [] => rfl
  | x :: a => by simp [Lib.compareBytes, UInt8.lt_irrefl, cmp_self a]
theorem cmp_zero : ∀ {a b : List UInt8}, Lib.compareBytes a b = 0 → a = b
  | [], [], _ => rfl
  | [], _ :: _, h => by simp [Lib.compareBytes] at h
  | _ :: _, [], h => by simp [Lib.compareBytes] at h
  | x :: a, y :: b, h => by
    unfold Lib.compareBytes at h
    by_cases h1 : x < y
    · simp [h1] at h
    · by_cases h2 : y < x
      · simp [h1, h2] at h
      · simp only [h1, h2, if_false] at h
        have e : x = y := UInt8.le_antisymm (UInt8.not_lt.1 h2) (UInt8.not_lt.1 h1)
        rw [e, cmp_zero h]
theorem cmp_neg : ∀ a b : List UInt8, Lib.compareBytes b a = - Lib.compareBytes a b
  | [], [] => rfl
  | [], _ :: _ => rfl
  | _ :: _, [] => rfl
  | x :: a, y :: b => by
    unfold Lib.compareBytes
    by_cases h1 : x < y
    · have h2 : ¬ y < x := fun h => UInt8.lt_irrefl _ (UInt8.lt_trans h1 h)
      simp [h1, h2]
    · by_cases h2 : y < x
      · simp [h1, h2]
      · simp only [h1, h2, if_false]; exact cmp_neg a b
theorem cmp_range : ∀ a b : List UInt8, Lib.compareBytes a b = -1 ∨ Lib.compareBytes a b = 0 ∨ Lib.compareBytes a b = 1
  | [], [] => .inr (.inl rfl)
  | [], _ :: _ => .inl rfl
  | _ :: _, [] => .inr (.inr rfl)
  | x :: a, y :: b => by
    unfold Lib.compareBytes
    by_cases h1 : x < y
    · simp [h1]
    · by_cases h2 : y < x
      · simp [h1, h2]
      · simp only [h1, h2, if_false]; exact cmp_range a b
theorem cmp_lt_trans : ∀ {a b c : List UInt8}, Lib.compareBytes a b = -1 → Lib.compareBytes b c = -1 → Lib.compareBytes a c = -1
  | [], _, [], h1, h2 => by cases ‹List UInt8› <;> simp [Lib.compareBytes] at h1 h2
  | [], _, _ :: _, _, _ => rfl
  | _ :: _, [], _, h1, _ => by simp [Lib.compareBytes] at h1
  | _ :: _, _ :: _, [], _, h2 => by simp [Lib.compareBytes] at h2
  | x :: a, y :: b, z :: c, h1, h2 => by
    unfold Lib.compareBytes at h1 h2 ⊢
    by_cases p1 : x < y
    · by_cases p2 : y < z
      · simp [UInt8.lt_trans p1 p2]
      · by_cases p3 : z < y
        · simp [p2, p3] at h2
        · have e : y = z := UInt8.le_antisymm (UInt8.not_lt.1 p3) (UInt8.not_lt.1 p2)
          subst e; simp [p1]
    · by_cases p4 : y < x
      · simp [p1, p4] at h1
      · have e : x = y := UInt8.le_antisymm (UInt8.not_lt.1 p4) (UInt8.not_lt.1 p1)
        subst e
        simp only [p1, if_false] at h1
        by_cases p2 : x < z
        · simp [p2]
        · by_cases p3 : z < x
          · simp [p2, p3] at h2
          · simp only [p2, p3, if_false] at h2 ⊢
            exact cmp_lt_trans h1 h2
/-- A name that may be, byte by byte. -/
def idL : List UInt8 → Bool
  | c :: t => c == 48 && decide (t.length ≤ 5) && t.all okDigit
  | [] => false
theorem rightB_eq (a : ByteArray) : rightB a = idL a.data.toList := by
  have hs : a.size = a.data.toList.length := by simp
  unfold rightB
  rw [Lib.extract_data, hs]
  cases a.data.toList with
  | nil => rfl
  | cons c t =>
    simp only [idL, List.isPrefixOf, List.length_cons, List.drop_one, List.tail_cons, Nat.add_sub_cancel]
    rw [List.take_of_length_le (Nat.le_refl _)]
    have e : decide (t.length + 1 ≤ 6) = decide (t.length ≤ 5) := by
      by_cases h : t.length ≤ 5
      · rw [decide_eq_true h, decide_eq_true (by omega)]
      · rw [decide_eq_false h, decide_eq_false (by omega)]
    rw [e]
    by_cases h : c = 48
    · subst h; simp
    · have h1 : (c == 48) = false := by simpa using h
      have h2 : ((48 : UInt8) == c) = false := by simpa using fun e => h e.symm
      simp [h1, h2]
/-- Names by their bytes. -/
def cmpB (a b : ByteArray) : Int := Lib.compareBytes a.data.toList b.data.toList
def bsI (c : Nat → Int) : Nat → Nat → Nat → Nat
  | 0, i, _ => i
  | f + 1, i, j => if i < j then (if c ((i + j) / 2) < 0 then bsI c f ((i + j) / 2 + 1) j else bsI c f i ((i + j) / 2)) else i
def bsN (c : Nat → Int) (n : Nat) : Nat := bsI c (n + 1) 0 n
def bsB (c : Nat → Int) (n : Nat) : Bool := decide (bsN c n < n) && decide (c (bsN c n) = 0)
theorem bsI_le (c : Nat → Int) : ∀ f i j, i ≤ j → bsI c f i j ≤ j
  | 0, i, j, h => h
  | f + 1, i, j, h => by
    unfold bsI
    split
    · split
      · exact bsI_le c f _ _ (by omega)
      · exact Nat.le_trans (bsI_le c f _ _ (by omega)) (by omega)
    · omega
end Go.Proofs.Ytgdkgobplinelaa
