import Derived.Test.YtgdkgobplinelaaKeys
import Derived.Test.YtgdkgobplinelaaOrdZ
namespace Go.Proofs.Ytgdkgobplinelaa
def cmpI (a b : Int) : Int := if a < b then -1 else if a > b then 1 else 0
end Go.Proofs.Ytgdkgobplinelaa
