import Derived.Test.YtgdkgobplinelaaBase
import Derived.Shelf.SlSortCmp.NoneTotal
import Derived.Lib.SlicesCompact
import Derived.Test.YtgdkgobplinelaaSrt
/- Lists of names in strict order. No program in sight. -/
namespace Go.Proofs.Ytgdkgobplinelaa
open Go.Sort
def ltB (x y : ByteArray) : Prop := cmpB x y < 0
instance (x y : ByteArray) : Decidable (ltB x y) := by unfold ltB; infer_instance
end Go.Proofs.Ytgdkgobplinelaa
