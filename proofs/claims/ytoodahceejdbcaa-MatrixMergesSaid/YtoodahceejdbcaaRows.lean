/-
  No cell of these rows narrows 'for every input' (looked for: loops, veiled, ifaces, maps, wideKeys, modest, calm, conditions, laid).
  DERIVED. THE GIVEN ROWS OF THIS SEAT. 5 by the template 'for every input the law returns true; each argument reads behind the call as it read before'; 0 by the template 'total and deterministic' (their statements: YtoodahceejdbcaaTotals.lean).
  GIVEN WITH THE SEED: the statements are not yours to turn. If you find one false, say at which input.
  Laid BY PROGRAM, IN A SANDBOX (cutbox-rows.mjs): the forced cells as the released guide's own fill.sh prints them over the translation 879597b38c15869a… (all of the seat's roots in one cut). By AI agents, Wed Nov 11 2026. No macro, syntax, notation, axiom, sorry.
-/
import Derived.Test.YtoodahceejdbcaaChecked
import GoSem.Claim
import GoSem.ClaimJoined
import GoSem.ClaimMapViews
import Derived.JoinedTies
import Derived.KernelRfl
namespace Go.Proofs.Ytoodahceejdbcaa
/- THE CELL 'sum', in the pinned program and in every row, IS THE sha256 OF THE DUMP (.gsa) THAT YtoodahceejdbcaaProg.lean LOADS. Nothing in Lean hashes anything: it is a label: what it is worth is what the hold of that sum in a sandbox is worth. -/
noncomputable def Try.pinned : Pinned := { name := "ytoodahceejdbcaa", sum := "879597b38c15869adb5f0428bdd38456c5fd41c60982a83655721441f0092fe4", checked := Try.checked }
namespace Rows
def none {H : Type} : Left H := { results := [], args := [] }

/-- 'cenotaphlaw10.MatrixRights': WHATEVER THE INPUT: true; the input reads as it did. -/
def matrixRightsSpec : ChangeSpec := { name := "matrixRights", fn := fun _ => fun
  | [d] => { results := [.lit (.bool true)], args := [d] }
  | _ => none }
def matrixRightsRow : OpenClaim := { program := "ytoodahceejdbcaa", sum := "879597b38c15869adb5f0428bdd38456c5fd41c60982a83655721441f0092fe4", func := "cenotaph/cenotaphlaw10.MatrixRights", spec := "matrixRights", inPlace := ["internal/bytealg.abigen_runtime_cmpstring", "slices.overlaps[cenotaph/vec.At]", "slices.overlaps[cenotaph/matrix.Row]"], unfollowed := true, recurses := true, apart := false }
def MatrixRightsSaid : Prop := matrixRightsRow.holds Try.pinned (OpenSpec.ofChange matrixRightsSpec)

/-- ITS FALSE NEIGHBOUR: 'it returns false'. Refute it at one input. -/
def matrixRightsWrong : ChangeSpec := { name := "matrixRights", fn := fun _ => fun
  | [d] => { results := [.lit (.bool false)], args := [d] }
  | _ => none }
def MatrixRightsWrongFalsely : Prop := matrixRightsRow.holds Try.pinned (OpenSpec.ofChange matrixRightsWrong)

/-- 'cenotaphlaw10.MatrixStables': WHATEVER THE INPUT: true; the input reads as it did. -/
def matrixStablesSpec : ChangeSpec := { name := "matrixStables", fn := fun _ => fun
  | [d1, d2, d3] => { results := [.lit (.bool true)], args := [d1, d2, d3] }
  | _ => none }
def matrixStablesRow : OpenClaim := { program := "ytoodahceejdbcaa", sum := "879597b38c15869adb5f0428bdd38456c5fd41c60982a83655721441f0092fe4", func := "cenotaph/cenotaphlaw10.MatrixStables", spec := "matrixStables", inPlace := ["internal/bytealg.abigen_runtime_cmpstring", "slices.overlaps[cenotaph/vec.At]", "slices.overlaps[cenotaph/matrix.Row]"], unfollowed := true, recurses := true, apart := false }
def MatrixStablesSaid : Prop := matrixStablesRow.holds Try.pinned (OpenSpec.ofChange matrixStablesSpec)

/-- ITS FALSE NEIGHBOUR: 'it returns false'. Refute it at one input. -/
def matrixStablesWrong : ChangeSpec := { name := "matrixStables", fn := fun _ => fun
  | [d1, d2, d3] => { results := [.lit (.bool false)], args := [d1, d2, d3] }
  | _ => none }
def MatrixStablesWrongFalsely : Prop := matrixStablesRow.holds Try.pinned (OpenSpec.ofChange matrixStablesWrong)

/-- 'cenotaphlaw10.MatrixOnce': WHATEVER THE INPUT: true; the input reads as it did. -/
def matrixOnceSpec : ChangeSpec := { name := "matrixOnce", fn := fun _ => fun
  | [d1, d2, d3] => { results := [.lit (.bool true)], args := [d1, d2, d3] }
  | _ => none }
def matrixOnceRow : OpenClaim := { program := "ytoodahceejdbcaa", sum := "879597b38c15869adb5f0428bdd38456c5fd41c60982a83655721441f0092fe4", func := "cenotaph/cenotaphlaw10.MatrixOnce", spec := "matrixOnce", inPlace := ["internal/bytealg.abigen_runtime_cmpstring", "slices.overlaps[cenotaph/vec.At]", "slices.overlaps[cenotaph/matrix.Row]"], unfollowed := true, recurses := true, apart := false }
def MatrixOnceSaid : Prop := matrixOnceRow.holds Try.pinned (OpenSpec.ofChange matrixOnceSpec)

/-- ITS FALSE NEIGHBOUR: 'it returns false'. Refute it at one input. -/
def matrixOnceWrong : ChangeSpec := { name := "matrixOnce", fn := fun _ => fun
  | [d1, d2, d3] => { results := [.lit (.bool false)], args := [d1, d2, d3] }
  | _ => none }
def MatrixOnceWrongFalsely : Prop := matrixOnceRow.holds Try.pinned (OpenSpec.ofChange matrixOnceWrong)

/-- 'cenotaphlaw10.MatrixPuts': WHATEVER THE INPUT: true; the input reads as it did. -/
def matrixPutsSpec : ChangeSpec := { name := "matrixPuts", fn := fun _ => fun
  | [d1, d2, d3] => { results := [.lit (.bool true)], args := [d1, d2, d3] }
  | _ => none }
def matrixPutsRow : OpenClaim := { program := "ytoodahceejdbcaa", sum := "879597b38c15869adb5f0428bdd38456c5fd41c60982a83655721441f0092fe4", func := "cenotaph/cenotaphlaw10.MatrixPuts", spec := "matrixPuts", inPlace := ["internal/bytealg.abigen_runtime_cmpstring", "slices.overlaps[cenotaph/vec.At]", "slices.overlaps[cenotaph/matrix.Row]"], unfollowed := true, recurses := true, apart := false }
def MatrixPutsSaid : Prop := matrixPutsRow.holds Try.pinned (OpenSpec.ofChange matrixPutsSpec)

/-- ITS FALSE NEIGHBOUR: 'it returns false'. Refute it at one input. -/
def matrixPutsWrong : ChangeSpec := { name := "matrixPuts", fn := fun _ => fun
  | [d1, d2, d3] => { results := [.lit (.bool false)], args := [d1, d2, d3] }
  | _ => none }
def MatrixPutsWrongFalsely : Prop := matrixPutsRow.holds Try.pinned (OpenSpec.ofChange matrixPutsWrong)

/-- 'cenotaphlaw10.MatrixMerges': WHATEVER THE INPUT: true; the input reads as it did. -/
def matrixMergesSpec : ChangeSpec := { name := "matrixMerges", fn := fun _ => fun
  | [d1, d2, d3] => { results := [.lit (.bool true)], args := [d1, d2, d3] }
  | _ => none }
def matrixMergesRow : OpenClaim := { program := "ytoodahceejdbcaa", sum := "879597b38c15869adb5f0428bdd38456c5fd41c60982a83655721441f0092fe4", func := "cenotaph/cenotaphlaw10.MatrixMerges", spec := "matrixMerges", inPlace := ["internal/bytealg.abigen_runtime_cmpstring", "slices.overlaps[cenotaph/vec.At]", "slices.overlaps[cenotaph/matrix.Row]"], unfollowed := true, recurses := true, apart := false }
def MatrixMergesSaid : Prop := matrixMergesRow.holds Try.pinned (OpenSpec.ofChange matrixMergesSpec)

/-- ITS FALSE NEIGHBOUR: 'it returns false'. Refute it at one input. -/
def matrixMergesWrong : ChangeSpec := { name := "matrixMerges", fn := fun _ => fun
  | [d1, d2, d3] => { results := [.lit (.bool false)], args := [d1, d2, d3] }
  | _ => none }
def MatrixMergesWrongFalsely : Prop := matrixMergesRow.holds Try.pinned (OpenSpec.ofChange matrixMergesWrong)

/- THE SECOND FORM. 'bulk': how many values and letters a reading holds, each counted each time it is reached (what is shared counts as often as it is met; a slice's spare places count too). A statement '..UptoSaid' is the law's where the arguments, and the package variables that the reading takes, are together of bulk at most 1048576: NARROWER than '..Said'. Prove '..Said' where nothing that the law and all that it calls make is longer than what came in: it says more and counts as full. Else prove '..UptoSaid'. A law counts once. -/
mutual
def uptoBulk {H : Type} : DataW H → Nat
  | .lit (.string bytes) => bytes.length + 1
  | .lit _ => 1
  | .nil => 1
  | .ptr d => uptoBulk d + 1
  | .slice elems spare => uptoBulkAll elems + uptoBulkAll spare + 1
  | .agg parts => uptoBulkAll parts + 1
  | .iface _ d => uptoBulk d + 1
  | .map entries => uptoBulkEntries entries + 1
  | .held _ => 1
def uptoBulkAll {H : Type} : List (DataW H) → Nat
  | [] => 0
  | d :: r => uptoBulk d + uptoBulkAll r
def uptoBulkEntries {H : Type} : List (Lit × DataW H) → Nat
  | [] => 0
  | x :: r => uptoBulkEntry x + uptoBulkEntries r
def uptoBulkEntry {H : Type} : Lit × DataW H → Nat
  | (.string bytes, d) => bytes.length + uptoBulk d + 1
  | (_, d) => uptoBulk d + 1
 end
def uptoSmall : (H : Type) → List (DataW H) → Bool := fun _ ds => decide (uptoBulkAll ds ≤ 1048576)
def OpenSpec.upto (s : _root_.Go.ChangeSpec) : _root_.Go.OpenSpec := { _root_.Go.OpenSpec.ofChange s with cond := some uptoSmall }

/-- 'cenotaphlaw10.MatrixRights', WHERE WHAT IT READS IS OF BULK AT MOST 1048576: true; the input reads as it did. -/
def matrixRightsUptoRow : OpenClaim := { program := "ytoodahceejdbcaa", sum := "879597b38c15869adb5f0428bdd38456c5fd41c60982a83655721441f0092fe4", func := "cenotaph/cenotaphlaw10.MatrixRights", spec := "matrixRights", inPlace := ["internal/bytealg.abigen_runtime_cmpstring", "slices.overlaps[cenotaph/vec.At]", "slices.overlaps[cenotaph/matrix.Row]"], unfollowed := true, recurses := true, apart := false, narrowed := true }
def MatrixRightsUptoSaid : Prop := matrixRightsUptoRow.holds Try.pinned (OpenSpec.upto matrixRightsSpec)

/-- 'cenotaphlaw10.MatrixStables', WHERE WHAT IT READS IS OF BULK AT MOST 1048576: true; the input reads as it did. -/
def matrixStablesUptoRow : OpenClaim := { program := "ytoodahceejdbcaa", sum := "879597b38c15869adb5f0428bdd38456c5fd41c60982a83655721441f0092fe4", func := "cenotaph/cenotaphlaw10.MatrixStables", spec := "matrixStables", inPlace := ["internal/bytealg.abigen_runtime_cmpstring", "slices.overlaps[cenotaph/vec.At]", "slices.overlaps[cenotaph/matrix.Row]"], unfollowed := true, recurses := true, apart := false, narrowed := true }
def MatrixStablesUptoSaid : Prop := matrixStablesUptoRow.holds Try.pinned (OpenSpec.upto matrixStablesSpec)

/-- 'cenotaphlaw10.MatrixOnce', WHERE WHAT IT READS IS OF BULK AT MOST 1048576: true; the input reads as it did. -/
def matrixOnceUptoRow : OpenClaim := { program := "ytoodahceejdbcaa", sum := "879597b38c15869adb5f0428bdd38456c5fd41c60982a83655721441f0092fe4", func := "cenotaph/cenotaphlaw10.MatrixOnce", spec := "matrixOnce", inPlace := ["internal/bytealg.abigen_runtime_cmpstring", "slices.overlaps[cenotaph/vec.At]", "slices.overlaps[cenotaph/matrix.Row]"], unfollowed := true, recurses := true, apart := false, narrowed := true }
def MatrixOnceUptoSaid : Prop := matrixOnceUptoRow.holds Try.pinned (OpenSpec.upto matrixOnceSpec)

/-- 'cenotaphlaw10.MatrixPuts', WHERE WHAT IT READS IS OF BULK AT MOST 1048576: true; the input reads as it did. -/
def matrixPutsUptoRow : OpenClaim := { program := "ytoodahceejdbcaa", sum := "879597b38c15869adb5f0428bdd38456c5fd41c60982a83655721441f0092fe4", func := "cenotaph/cenotaphlaw10.MatrixPuts", spec := "matrixPuts", inPlace := ["internal/bytealg.abigen_runtime_cmpstring", "slices.overlaps[cenotaph/vec.At]", "slices.overlaps[cenotaph/matrix.Row]"], unfollowed := true, recurses := true, apart := false, narrowed := true }
def MatrixPutsUptoSaid : Prop := matrixPutsUptoRow.holds Try.pinned (OpenSpec.upto matrixPutsSpec)

/-- 'cenotaphlaw10.MatrixMerges', WHERE WHAT IT READS IS OF BULK AT MOST 1048576: true; the input reads as it did. -/
def matrixMergesUptoRow : OpenClaim := { program := "ytoodahceejdbcaa", sum := "879597b38c15869adb5f0428bdd38456c5fd41c60982a83655721441f0092fe4", func := "cenotaph/cenotaphlaw10.MatrixMerges", spec := "matrixMerges", inPlace := ["internal/bytealg.abigen_runtime_cmpstring", "slices.overlaps[cenotaph/vec.At]", "slices.overlaps[cenotaph/matrix.Row]"], unfollowed := true, recurses := true, apart := false, narrowed := true }
def MatrixMergesUptoSaid : Prop := matrixMergesUptoRow.holds Try.pinned (OpenSpec.upto matrixMergesSpec)

end Rows
end Go.Proofs.Ytoodahceejdbcaa
