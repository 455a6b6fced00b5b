/-
  No cell of these rows narrows 'for every input' (looked for: loops, veiled, ifaces, maps, wideKeys, modest, calm, conditions, laid).
  DERIVED. THE GIVEN ROWS OF THIS SEAT. 2 by the template 'for every input the law returns true; each argument reads behind the call as it read before'; 0 by the template 'total and deterministic' (their statements: YtkfehkaiifjkmaaGreatTotals.lean).
  GIVEN WITH THE SEED: the statements are not yours to turn. If you find one false, say at which input.
  Laid BY PROGRAM, IN A SANDBOX (cutbox-rows.mjs): the forced cells as the released guide's own fill.sh prints them over the translation b937e66d700740e3… (all of the seat's roots in one cut). By AI agents, Wed Nov 11 2026. No macro, syntax, notation, axiom, sorry.
-/
import Derived.Test.YtkfehkaiifjkmaaGreatChecked
import GoSem.Claim
import GoSem.ClaimJoined
import GoSem.ClaimMapViews
import Derived.JoinedTies
import Derived.KernelRfl
namespace Go.Proofs.YtkfehkaiifjkmaaGreat
/- THE CELL 'sum', in the pinned program and in every row, IS THE sha256 OF THE DUMP (.gsa) THAT YtkfehkaiifjkmaaGreatProg.lean LOADS. Nothing in Lean hashes anything: it is a label: what it is worth is what the hold of that sum in a sandbox is worth. -/
noncomputable def Tryz.pinned : Pinned := { name := "ytkfehkaiifjkmaagreat", sum := "b937e66d700740e3601fdc7bc8b4a69ed6039ee0f9977070368b295793fa6ff5", checked := Tryz.checked }
namespace Rows
def none {H : Type} : Left H := { results := [], args := [] }

/-- 'cenotaphlaw04.KnowFirsts': WHATEVER THE INPUT: true; the input reads as it did. -/
def knowFirstsSpec : ChangeSpec := { name := "knowFirsts", fn := fun _ => fun
  | [d1, d2, d3] => { results := [.lit (.bool true)], args := [d1, d2, d3] }
  | _ => none }
def knowFirstsRow : OpenClaim := { program := "ytkfehkaiifjkmaagreat", sum := "b937e66d700740e3601fdc7bc8b4a69ed6039ee0f9977070368b295793fa6ff5", func := "cenotaph/cenotaphlaw04.KnowFirsts", spec := "knowFirsts", inPlace := ["internal/bytealg.abigen_runtime_cmpstring", "slices.overlaps[cenotaph/vec.At]", "slices.overlaps[cenotaph/know.Row]"], unfollowed := true, recurses := true, apart := false }
def KnowFirstsSaid : Prop := knowFirstsRow.holds Tryz.pinned (OpenSpec.ofChange knowFirstsSpec)

/-- ITS FALSE NEIGHBOUR: 'it returns false'. Refute it at one input. -/
def knowFirstsWrong : ChangeSpec := { name := "knowFirsts", fn := fun _ => fun
  | [d1, d2, d3] => { results := [.lit (.bool false)], args := [d1, d2, d3] }
  | _ => none }
def KnowFirstsWrongFalsely : Prop := knowFirstsRow.holds Tryz.pinned (OpenSpec.ofChange knowFirstsWrong)

/-- 'cenotaphlaw04.KnowParts': WHATEVER THE INPUT: true; the input reads as it did. -/
def knowPartsSpec : ChangeSpec := { name := "knowParts", fn := fun _ => fun
  | [d1, d2] => { results := [.lit (.bool true)], args := [d1, d2] }
  | _ => none }
def knowPartsRow : OpenClaim := { program := "ytkfehkaiifjkmaagreat", sum := "b937e66d700740e3601fdc7bc8b4a69ed6039ee0f9977070368b295793fa6ff5", func := "cenotaph/cenotaphlaw04.KnowParts", spec := "knowParts", inPlace := ["internal/bytealg.abigen_runtime_cmpstring", "slices.overlaps[cenotaph/know.Row]", "slices.overlaps[cenotaph/vec.At]"], unfollowed := true, recurses := true, apart := false }
def KnowPartsSaid : Prop := knowPartsRow.holds Tryz.pinned (OpenSpec.ofChange knowPartsSpec)

/-- ITS FALSE NEIGHBOUR: 'it returns false'. Refute it at one input. -/
def knowPartsWrong : ChangeSpec := { name := "knowParts", fn := fun _ => fun
  | [d1, d2] => { results := [.lit (.bool false)], args := [d1, d2] }
  | _ => none }
def KnowPartsWrongFalsely : Prop := knowPartsRow.holds Tryz.pinned (OpenSpec.ofChange knowPartsWrong)

/- THE SECOND FORM. 'bulk': how many values and letters a reading holds, each counted each time it is reached (what is shared counts as often as it is met; a slice's spare places count too). A statement '..UptoSaid' is the law's where the arguments, and the package variables that the reading takes, are together of bulk at most 1048576: NARROWER than '..Said'. Prove '..Said' where nothing that the law and all that it calls make is longer than what came in: it says more and counts as full. Else prove '..UptoSaid'. A law counts once. -/
mutual
def uptoBulk {H : Type} : DataW H → Nat
  | .lit (.string bytes) => bytes.length + 1
  | .lit _ => 1
  | .nil => 1
  | .ptr d => uptoBulk d + 1
  | .slice elems spare => uptoBulkAll elems + uptoBulkAll spare + 1
  | .agg parts => uptoBulkAll parts + 1
  | .iface _ d => uptoBulk d + 1
  | .map entries => uptoBulkEntries entries + 1
  | .held _ => 1
def uptoBulkAll {H : Type} : List (DataW H) → Nat
  | [] => 0
  | d :: r => uptoBulk d + uptoBulkAll r
def uptoBulkEntries {H : Type} : List (Lit × DataW H) → Nat
  | [] => 0
  | x :: r => uptoBulkEntry x + uptoBulkEntries r
def uptoBulkEntry {H : Type} : Lit × DataW H → Nat
  | (.string bytes, d) => bytes.length + uptoBulk d + 1
  | (_, d) => uptoBulk d + 1
 end
def uptoSmall : (H : Type) → List (DataW H) → Bool := fun _ ds => decide (uptoBulkAll ds ≤ 1048576)
def OpenSpec.upto (s : _root_.Go.ChangeSpec) : _root_.Go.OpenSpec := { _root_.Go.OpenSpec.ofChange s with cond := some uptoSmall }

/-- 'cenotaphlaw04.KnowFirsts', WHERE WHAT IT READS IS OF BULK AT MOST 1048576: true; the input reads as it did. -/
def knowFirstsUptoRow : OpenClaim := { program := "ytkfehkaiifjkmaagreat", sum := "b937e66d700740e3601fdc7bc8b4a69ed6039ee0f9977070368b295793fa6ff5", func := "cenotaph/cenotaphlaw04.KnowFirsts", spec := "knowFirsts", inPlace := ["internal/bytealg.abigen_runtime_cmpstring", "slices.overlaps[cenotaph/vec.At]", "slices.overlaps[cenotaph/know.Row]"], unfollowed := true, recurses := true, apart := false, narrowed := true }
def KnowFirstsUptoSaid : Prop := knowFirstsUptoRow.holds Tryz.pinned (OpenSpec.upto knowFirstsSpec)

/-- 'cenotaphlaw04.KnowParts', WHERE WHAT IT READS IS OF BULK AT MOST 1048576: true; the input reads as it did. -/
def knowPartsUptoRow : OpenClaim := { program := "ytkfehkaiifjkmaagreat", sum := "b937e66d700740e3601fdc7bc8b4a69ed6039ee0f9977070368b295793fa6ff5", func := "cenotaph/cenotaphlaw04.KnowParts", spec := "knowParts", inPlace := ["internal/bytealg.abigen_runtime_cmpstring", "slices.overlaps[cenotaph/know.Row]", "slices.overlaps[cenotaph/vec.At]"], unfollowed := true, recurses := true, apart := false, narrowed := true }
def KnowPartsUptoSaid : Prop := knowPartsUptoRow.holds Tryz.pinned (OpenSpec.upto knowPartsSpec)

end Rows
end Go.Proofs.YtkfehkaiifjkmaaGreat
