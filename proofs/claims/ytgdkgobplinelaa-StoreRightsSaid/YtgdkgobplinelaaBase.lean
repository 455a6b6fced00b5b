import Derived.Lib.ConvBytes
import Derived.Lib.Bytealg
import Derived.Lib.Strings
import Derived.Below
import Derived.Deep.Draws
/- Plain words on ids: what a right id is; no program in sight. -/
namespace Go.Proofs.Ytgdkgobplinelaa
open Go.RowKit
set_option linter.unusedVariables false
/-- A digit that an id may have behind its first sign. -/
def okDigit (c : UInt8) : Bool := 49 ≤ c && c ≤ 57
/-- May a text be an id? -/
def rightB (a : ByteArray) : Bool := ({ data := #[48] } : ByteArray).data.toList.isPrefixOf a.data.toList && decide (a.size ≤ 6) && (a.extract 1 a.size).data.toList.all okDigit
theorem u8_digit {c : UInt8} (h : okDigit c = true) : decide ((c.toNat : Int) ≤ 48) = false ∧ decide ((57 : Int) < c.toNat) = false := by
  simp [okDigit, UInt8.le_iff_toNat_le] at h; simp; omega
theorem u8_nodigit {c : UInt8} (h : ¬ okDigit c = true) : (c.toNat : Int) ≤ 48 ∨ (57 : Int) < c.toNat := by
  simp [okDigit, UInt8.le_iff_toNat_le] at h; omega
theorem below_bytesWorldN (w : World) (n : Nat) (e : TypeId) (s : ByteArray) : Below w.heap.size w (Lib.bytesWorld (w.drewN n) e s) :=
  ⟨rfl, rfl, rfl, by rw [Lib.bytesWorld_size]; exact Nat.le_succ _, fun k hk => Lib.bytesWorld_at_old (w.drewN n) e s k hk⟩

/-! Byte strings in order. -/
/-- A name that may be, byte by byte. -/
def idL : List UInt8 → Bool
  | c :: t => c == 48 && decide (t.length ≤ 5) && t.all okDigit
  | [] => false
theorem rightB_eq (a : ByteArray) : rightB a = idL a.data.toList := by
  have hs : a.size = a.data.toList.length := by simp
  unfold rightB
  rw [Lib.extract_data, hs]
  cases a.data.toList with
  | nil => rfl
  | cons c t =>
    simp only [idL, List.isPrefixOf, List.length_cons, List.drop_one, List.tail_cons, Nat.add_sub_cancel]
    rw [List.take_of_length_le (Nat.le_refl _)]
    have e : decide (t.length + 1 ≤ 6) = decide (t.length ≤ 5) := by
      by_cases h : t.length ≤ 5
      · rw [decide_eq_true h, decide_eq_true (by omega)]
      · rw [decide_eq_false h, decide_eq_false (by omega)]
    rw [e]
    by_cases h : c = 48
    · subst h; simp
    · have h1 : (c == 48) = false := by simpa using h
      have h2 : ((48 : UInt8) == c) = false := by simpa using fun e => h e.symm
      simp [h1, h2]
/-- Names by their bytes. -/
def cmpB (a b : ByteArray) : Int := Lib.compareBytes a.data.toList b.data.toList
def bsI (c : Nat → Int) : Nat → Nat → Nat → Nat
  | 0, i, _ => i
  | f + 1, i, j => if i < j then (if c ((i + j) / 2) < 0 then bsI c f ((i + j) / 2 + 1) j else bsI c f i ((i + j) / 2)) else i
def bsN (c : Nat → Int) (n : Nat) : Nat := bsI c (n + 1) 0 n
def bsB (c : Nat → Int) (n : Nat) : Bool := decide (bsN c n < n) && decide (c (bsN c n) = 0)
theorem bsI_le (c : Nat → Int) : ∀ f i j, i ≤ j → bsI c f i j ≤ j
  | 0, i, j, h => h
  | f + 1, i, j, h => by
    unfold bsI
    split
    · split
      · exact bsI_le c f _ _ (by omega)
      · exact Nat.le_trans (bsI_le c f _ _ (by omega)) (by omega)
    · omega
end Go.Proofs.Ytgdkgobplinelaa
