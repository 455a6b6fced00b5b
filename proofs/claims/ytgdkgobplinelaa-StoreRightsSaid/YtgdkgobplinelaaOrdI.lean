import Derived.Test.YtgdkgobplinelaaKeys
import Derived.Test.YtgdkgobplinelaaOrdZ
/- A search by halves among rows that rise by a whole number. No program in sight. -/
namespace Go.Proofs.Ytgdkgobplinelaa
/-- Two numbers' order, as Go tells it. -/
def cmpI (a b : Int) : Int := if a < b then -1 else if a > b then 1 else 0
theorem cmpI_neg {a b : Int} : cmpI a b < 0 ↔ a < b := by unfold cmpI; split <;> (try split) <;> omega
end Go.Proofs.Ytgdkgobplinelaa
