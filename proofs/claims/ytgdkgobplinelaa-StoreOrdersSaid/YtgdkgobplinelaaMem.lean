import Derived.Test.YtgdkgobplinelaaWMore
import Derived.Sort.Grow
/- Rows of the call's own, said in two ways: as the printed words say it, and as the library's sort does. No program in sight. -/
namespace Go.Proofs.Ytgdkgobplinelaa
open Go.RowKit Go.Sort Go.Proofs.YtgdkgobplinelaaW.PrintWords
set_option linter.unusedVariables false
section
variable {α : Type} {enc : α → Value} {h1 : ∀ x, (enc x).oneCell' = true} {e : TypeId} {w : World} {base : Nat} {ok : Nat → Prop} {v : Value} {xs : List α}
end
section
variable {α : Type} [Inhabited α] {enc : α → Value} {e : TypeId} {w : World}
end
theorem heap_alloc_new (w : World) (o : Obj) {k : Nat} (h : k = w.heap.size) : (w.alloc o).heap[k]? = some o := by subst h; simp [World.alloc, -World.alloc_eq]
end Go.Proofs.Ytgdkgobplinelaa
