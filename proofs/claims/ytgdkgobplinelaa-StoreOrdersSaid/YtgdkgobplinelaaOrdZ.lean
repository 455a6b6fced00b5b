import Derived.Test.YtgdkgobplinelaaSrt
/- Numbers in order. No program in sight. -/
namespace Go.Proofs.Ytgdkgobplinelaa
theorem toZ : TO (fun x y : Int => x < y) where
  irrefl x := by omega
  trans x y z h1 h2 := by omega
  tri x y := by omega
end Go.Proofs.Ytgdkgobplinelaa
