/- A sorted list is searched by halves, as Go's library does it. No program in sight. -/
namespace Go.Proofs.Ytejoofeigeoboaa
def bsI (c : Nat → Int) : Nat → Nat → Nat → Nat
  | 0, i, _ => i
  | f + 1, i, j => if i < j then (if c ((i + j) / 2) < 0 then bsI c f ((i + j) / 2 + 1) j else bsI c f i ((i + j) / 2)) else i
def bsN (c : Nat → Int) (n : Nat) : Nat := bsI c (n + 1) 0 n
def bsB (c : Nat → Int) (n : Nat) : Bool := decide (bsN c n < n) && decide (c (bsN c n) = 0)
theorem bsI_le (c : Nat → Int) : ∀ f i j, i ≤ j → bsI c f i j ≤ j
  | 0, i, j, h => h
  | f + 1, i, j, h => by
    unfold bsI
    split
    · split
      · exact bsI_le c f _ _ (by omega)
      · exact Nat.le_trans (bsI_le c f _ _ (by omega)) (by omega)
    · omega
end Go.Proofs.Ytejoofeigeoboaa
