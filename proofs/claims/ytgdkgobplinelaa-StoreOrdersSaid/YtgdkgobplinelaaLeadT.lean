import Derived.Test.YtgdkgobplinelaaWMore
import Derived.Test.YtgdkgobplinelaaWShare
import Derived.Test.YtgdkgobplinelaaRow
/- Rows of a name, a number and a slice: the cells as they lie (RW), and what the slices lead to beside them. No program in sight. -/
namespace Go.Proofs.Ytgdkgobplinelaa
open Go.RowKit Go.Proofs.YtgdkgobplinelaaW.PrintWords Go.Proofs.YtgdkgobplinelaaW.PrintWords.Kd
set_option linter.unusedVariables false
/-- A row's cells as they lie: a name, a number, and a slice. -/
structure RW where
  f0 : ByteArray
  u : Int
  A : Option Addr
  n : Nat
  c : Nat
section
variable {α β : Type} {d : Kd α} {f : β → ByteArray} {h_ : β → Int} {g : β → List α} {w w1 : World} {ok ok' : Nat → Prop} {r : RW} {s : ByteArray} {mm : Int} {l : List α} {rs : List RW} {xs : List β} {e base : Nat} {v : Value}
/-- A kind of rows of a name and a slice. -/
structure LeadK (K : Kd β) (d : Kd α) (f : β → ByteArray) (h_ : β → Int) (g : β → List α) : Prop where
  sz : K.sz = 3
  heap : Kd.Heap d
  opn : ∀ {w : World} {x : β} {cs : List Value}, K.K w x cs → ∃ A c, cs = [.string (f x), .int .i64 (h_ x), .slice A (g x).length c] ∧ (g x).length ≤ c ∧ d.C w A (g x).length (g x)
  mkK : ∀ {w : World} {x : β} {A : Option Addr} {c : Nat}, (g x).length ≤ c → d.C w A (g x).length (g x) → K.K w x [.string (f x), .int .i64 (h_ x), .slice A (g x).length c]
variable {K : Kd β} (L : LeadK K d f h_ g)
include L
end
section
variable {α β : Type} {d : Kd α} {f : β → ByteArray} {h_ : β → Int} {g : β → List α} {w w1 : World} {ok ok' : Nat → Prop} {rs : List RW} {xs : List β} {e base : Nat}
def RW.cs (r : RW) : List Value := [.string r.f0, .int .i64 r.u, .slice r.A r.n r.c]
end
end Go.Proofs.Ytgdkgobplinelaa
