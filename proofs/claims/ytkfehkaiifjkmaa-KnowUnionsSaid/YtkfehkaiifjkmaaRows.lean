/-
  No cell of these rows narrows 'for every input' (looked for: loops, veiled, ifaces, maps, wideKeys, modest, calm, conditions, laid).
  DERIVED. THE GIVEN ROWS OF THIS SEAT. 4 by the template 'for every input the law returns true; each argument reads behind the call as it read before'; 0 by the template 'total and deterministic' (their statements: YtkfehkaiifjkmaaTotals.lean).
  GIVEN WITH THE SEED: the statements are not yours to turn. If you find one false, say at which input.
  Laid BY PROGRAM, IN A SANDBOX (cutbox-rows.mjs): the forced cells as the released guide's own fill.sh prints them over the translation 1d85a73bf14933aa… (all of the seat's roots in one cut). By AI agents, Wed Nov 11 2026. No macro, syntax, notation, axiom, sorry.
-/
import Derived.Test.YtkfehkaiifjkmaaChecked
import GoSem.Claim
import GoSem.ClaimJoined
import GoSem.ClaimMapViews
import Derived.JoinedTies
import Derived.KernelRfl
namespace Go.Proofs.Ytkfehkaiifjkmaa
/- THE CELL 'sum', in the pinned program and in every row, IS THE sha256 OF THE DUMP (.gsa) THAT YtkfehkaiifjkmaaProg.lean LOADS. Nothing in Lean hashes anything: it is a label: what it is worth is what the hold of that sum in a sandbox is worth. -/
noncomputable def Try.pinned : Pinned := { name := "ytkfehkaiifjkmaa", sum := "1d85a73bf14933aa1d23190787efbe359270d4f00a18de72bb3e5842c015b31d", checked := Try.checked }
namespace Rows
def none {H : Type} : Left H := { results := [], args := [] }

/-- 'cenotaphlaw04.KnowRights': WHATEVER THE INPUT: true; the input reads as it did. -/
def knowRightsSpec : ChangeSpec := { name := "knowRights", fn := fun _ => fun
  | [d] => { results := [.lit (.bool true)], args := [d] }
  | _ => none }
def knowRightsRow : OpenClaim := { program := "ytkfehkaiifjkmaa", sum := "1d85a73bf14933aa1d23190787efbe359270d4f00a18de72bb3e5842c015b31d", func := "cenotaph/cenotaphlaw04.KnowRights", spec := "knowRights", inPlace := ["internal/bytealg.abigen_runtime_cmpstring", "slices.overlaps[cenotaph/know.Row]", "slices.overlaps[cenotaph/vec.At]"], unfollowed := true, recurses := true, apart := false }
def KnowRightsSaid : Prop := knowRightsRow.holds Try.pinned (OpenSpec.ofChange knowRightsSpec)

/-- ITS FALSE NEIGHBOUR: 'it returns false'. Refute it at one input. -/
def knowRightsWrong : ChangeSpec := { name := "knowRights", fn := fun _ => fun
  | [d] => { results := [.lit (.bool false)], args := [d] }
  | _ => none }
def KnowRightsWrongFalsely : Prop := knowRightsRow.holds Try.pinned (OpenSpec.ofChange knowRightsWrong)

/-- 'cenotaphlaw04.KnowAdds': WHATEVER THE INPUT: true; the input reads as it did. -/
def knowAddsSpec : ChangeSpec := { name := "knowAdds", fn := fun _ => fun
  | [d1, d2, d3] => { results := [.lit (.bool true)], args := [d1, d2, d3] }
  | _ => none }
def knowAddsRow : OpenClaim := { program := "ytkfehkaiifjkmaa", sum := "1d85a73bf14933aa1d23190787efbe359270d4f00a18de72bb3e5842c015b31d", func := "cenotaph/cenotaphlaw04.KnowAdds", spec := "knowAdds", inPlace := ["internal/bytealg.abigen_runtime_cmpstring", "slices.overlaps[cenotaph/know.Row]", "slices.overlaps[cenotaph/vec.At]"], unfollowed := true, recurses := true, apart := false }
def KnowAddsSaid : Prop := knowAddsRow.holds Try.pinned (OpenSpec.ofChange knowAddsSpec)

/-- ITS FALSE NEIGHBOUR: 'it returns false'. Refute it at one input. -/
def knowAddsWrong : ChangeSpec := { name := "knowAdds", fn := fun _ => fun
  | [d1, d2, d3] => { results := [.lit (.bool false)], args := [d1, d2, d3] }
  | _ => none }
def KnowAddsWrongFalsely : Prop := knowAddsRow.holds Try.pinned (OpenSpec.ofChange knowAddsWrong)

/-- 'cenotaphlaw04.KnowUnions': WHATEVER THE INPUT: true; the input reads as it did. -/
def knowUnionsSpec : ChangeSpec := { name := "knowUnions", fn := fun _ => fun
  | [d1, d2, d3] => { results := [.lit (.bool true)], args := [d1, d2, d3] }
  | _ => none }
def knowUnionsRow : OpenClaim := { program := "ytkfehkaiifjkmaa", sum := "1d85a73bf14933aa1d23190787efbe359270d4f00a18de72bb3e5842c015b31d", func := "cenotaph/cenotaphlaw04.KnowUnions", spec := "knowUnions", inPlace := ["internal/bytealg.abigen_runtime_cmpstring", "slices.overlaps[cenotaph/know.Row]", "slices.overlaps[cenotaph/vec.At]"], unfollowed := true, recurses := true, apart := false }
def KnowUnionsSaid : Prop := knowUnionsRow.holds Try.pinned (OpenSpec.ofChange knowUnionsSpec)

/-- ITS FALSE NEIGHBOUR: 'it returns false'. Refute it at one input. -/
def knowUnionsWrong : ChangeSpec := { name := "knowUnions", fn := fun _ => fun
  | [d1, d2, d3] => { results := [.lit (.bool false)], args := [d1, d2, d3] }
  | _ => none }
def KnowUnionsWrongFalsely : Prop := knowUnionsRow.holds Try.pinned (OpenSpec.ofChange knowUnionsWrong)

/-- 'cenotaphlaw04.KnowGroups': WHATEVER THE INPUT: true; the input reads as it did. -/
def knowGroupsSpec : ChangeSpec := { name := "knowGroups", fn := fun _ => fun
  | [d1, d2, d3] => { results := [.lit (.bool true)], args := [d1, d2, d3] }
  | _ => none }
def knowGroupsRow : OpenClaim := { program := "ytkfehkaiifjkmaa", sum := "1d85a73bf14933aa1d23190787efbe359270d4f00a18de72bb3e5842c015b31d", func := "cenotaph/cenotaphlaw04.KnowGroups", spec := "knowGroups", inPlace := ["internal/bytealg.abigen_runtime_cmpstring", "slices.overlaps[cenotaph/know.Row]", "slices.overlaps[cenotaph/vec.At]"], unfollowed := true, recurses := true, apart := false }
def KnowGroupsSaid : Prop := knowGroupsRow.holds Try.pinned (OpenSpec.ofChange knowGroupsSpec)

/-- ITS FALSE NEIGHBOUR: 'it returns false'. Refute it at one input. -/
def knowGroupsWrong : ChangeSpec := { name := "knowGroups", fn := fun _ => fun
  | [d1, d2, d3] => { results := [.lit (.bool false)], args := [d1, d2, d3] }
  | _ => none }
def KnowGroupsWrongFalsely : Prop := knowGroupsRow.holds Try.pinned (OpenSpec.ofChange knowGroupsWrong)

/- THE SECOND FORM. 'bulk': how many values and letters a reading holds, each counted each time it is reached (what is shared counts as often as it is met; a slice's spare places count too). A statement '..UptoSaid' is the law's where the arguments, and the package variables that the reading takes, are together of bulk at most 1048576: NARROWER than '..Said'. Prove '..Said' where nothing that the law and all that it calls make is longer than what came in: it says more and counts as full. Else prove '..UptoSaid'. A law counts once. -/
mutual
def uptoBulk {H : Type} : DataW H → Nat
  | .lit (.string bytes) => bytes.length + 1
  | .lit _ => 1
  | .nil => 1
  | .ptr d => uptoBulk d + 1
  | .slice elems spare => uptoBulkAll elems + uptoBulkAll spare + 1
  | .agg parts => uptoBulkAll parts + 1
  | .iface _ d => uptoBulk d + 1
  | .map entries => uptoBulkEntries entries + 1
  | .held _ => 1
def uptoBulkAll {H : Type} : List (DataW H) → Nat
  | [] => 0
  | d :: r => uptoBulk d + uptoBulkAll r
def uptoBulkEntries {H : Type} : List (Lit × DataW H) → Nat
  | [] => 0
  | x :: r => uptoBulkEntry x + uptoBulkEntries r
def uptoBulkEntry {H : Type} : Lit × DataW H → Nat
  | (.string bytes, d) => bytes.length + uptoBulk d + 1
  | (_, d) => uptoBulk d + 1
 end
def uptoSmall : (H : Type) → List (DataW H) → Bool := fun _ ds => decide (uptoBulkAll ds ≤ 1048576)
def OpenSpec.upto (s : _root_.Go.ChangeSpec) : _root_.Go.OpenSpec := { _root_.Go.OpenSpec.ofChange s with cond := some uptoSmall }

/-- 'cenotaphlaw04.KnowRights', WHERE WHAT IT READS IS OF BULK AT MOST 1048576: true; the input reads as it did. -/
def knowRightsUptoRow : OpenClaim := { program := "ytkfehkaiifjkmaa", sum := "1d85a73bf14933aa1d23190787efbe359270d4f00a18de72bb3e5842c015b31d", func := "cenotaph/cenotaphlaw04.KnowRights", spec := "knowRights", inPlace := ["internal/bytealg.abigen_runtime_cmpstring", "slices.overlaps[cenotaph/know.Row]", "slices.overlaps[cenotaph/vec.At]"], unfollowed := true, recurses := true, apart := false, narrowed := true }
def KnowRightsUptoSaid : Prop := knowRightsUptoRow.holds Try.pinned (OpenSpec.upto knowRightsSpec)

/-- 'cenotaphlaw04.KnowAdds', WHERE WHAT IT READS IS OF BULK AT MOST 1048576: true; the input reads as it did. -/
def knowAddsUptoRow : OpenClaim := { program := "ytkfehkaiifjkmaa", sum := "1d85a73bf14933aa1d23190787efbe359270d4f00a18de72bb3e5842c015b31d", func := "cenotaph/cenotaphlaw04.KnowAdds", spec := "knowAdds", inPlace := ["internal/bytealg.abigen_runtime_cmpstring", "slices.overlaps[cenotaph/know.Row]", "slices.overlaps[cenotaph/vec.At]"], unfollowed := true, recurses := true, apart := false, narrowed := true }
def KnowAddsUptoSaid : Prop := knowAddsUptoRow.holds Try.pinned (OpenSpec.upto knowAddsSpec)

/-- 'cenotaphlaw04.KnowUnions', WHERE WHAT IT READS IS OF BULK AT MOST 1048576: true; the input reads as it did. -/
def knowUnionsUptoRow : OpenClaim := { program := "ytkfehkaiifjkmaa", sum := "1d85a73bf14933aa1d23190787efbe359270d4f00a18de72bb3e5842c015b31d", func := "cenotaph/cenotaphlaw04.KnowUnions", spec := "knowUnions", inPlace := ["internal/bytealg.abigen_runtime_cmpstring", "slices.overlaps[cenotaph/know.Row]", "slices.overlaps[cenotaph/vec.At]"], unfollowed := true, recurses := true, apart := false, narrowed := true }
def KnowUnionsUptoSaid : Prop := knowUnionsUptoRow.holds Try.pinned (OpenSpec.upto knowUnionsSpec)

/-- 'cenotaphlaw04.KnowGroups', WHERE WHAT IT READS IS OF BULK AT MOST 1048576: true; the input reads as it did. -/
def knowGroupsUptoRow : OpenClaim := { program := "ytkfehkaiifjkmaa", sum := "1d85a73bf14933aa1d23190787efbe359270d4f00a18de72bb3e5842c015b31d", func := "cenotaph/cenotaphlaw04.KnowGroups", spec := "knowGroups", inPlace := ["internal/bytealg.abigen_runtime_cmpstring", "slices.overlaps[cenotaph/know.Row]", "slices.overlaps[cenotaph/vec.At]"], unfollowed := true, recurses := true, apart := false, narrowed := true }
def KnowGroupsUptoSaid : Prop := knowGroupsUptoRow.holds Try.pinned (OpenSpec.upto knowGroupsSpec)

end Rows
end Go.Proofs.Ytkfehkaiifjkmaa
