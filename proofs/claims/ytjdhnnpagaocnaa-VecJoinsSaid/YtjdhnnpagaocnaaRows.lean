/-
  No cell of these rows narrows 'for every input' (looked for: loops, veiled, ifaces, maps, wideKeys, modest, calm, conditions, laid).
  DERIVED. THE GIVEN ROWS OF THIS SEAT. 5 by the template 'for every input the law returns true; each argument reads behind the call as it read before'; 0 by the template 'total and deterministic' (their statements: YtjdhnnpagaocnaaTotals.lean).
  GIVEN WITH THE SEED: the statements are not yours to turn. If you find one false, say at which input.
  Laid BY PROGRAM, IN A SANDBOX (cutbox-rows.mjs): the forced cells as the released guide's own fill.sh prints them over the translation b04e1bf2c1b2349c… (all of the seat's roots in one cut). By AI agents, Wed Nov 11 2026. No macro, syntax, notation, axiom, sorry.
-/
import Derived.Test.YtjdhnnpagaocnaaChecked
import GoSem.Claim
import GoSem.ClaimJoined
import GoSem.ClaimMapViews
import Derived.JoinedTies
import Derived.KernelRfl
namespace Go.Proofs.Ytjdhnnpagaocnaa
/- THE CELL 'sum', in the pinned program and in every row, IS THE sha256 OF THE DUMP (.gsa) THAT YtjdhnnpagaocnaaProg.lean LOADS. Nothing in Lean hashes anything: it is a label: what it is worth is what the hold of that sum in a sandbox is worth. -/
noncomputable def Try.pinned : Pinned := { name := "ytjdhnnpagaocnaa", sum := "b04e1bf2c1b2349cbca910bef7de105f4582604a29f91ebbb34975bbf39c4f1e", checked := Try.checked }
namespace Rows
def none {H : Type} : Left H := { results := [], args := [] }

/-- 'cenotaphlaw03.VecRights': WHATEVER THE INPUT: true; the input reads as it did. -/
def vecRightsSpec : ChangeSpec := { name := "vecRights", fn := fun _ => fun
  | [d] => { results := [.lit (.bool true)], args := [d] }
  | _ => none }
def vecRightsRow : OpenClaim := { program := "ytjdhnnpagaocnaa", sum := "b04e1bf2c1b2349cbca910bef7de105f4582604a29f91ebbb34975bbf39c4f1e", func := "cenotaph/cenotaphlaw03.VecRights", spec := "vecRights", inPlace := ["internal/bytealg.abigen_runtime_cmpstring", "slices.overlaps[cenotaph/vec.At]"], unfollowed := true, recurses := true, apart := false }
def VecRightsSaid : Prop := vecRightsRow.holds Try.pinned (OpenSpec.ofChange vecRightsSpec)

/-- ITS FALSE NEIGHBOUR: 'it returns false'. Refute it at one input. -/
def vecRightsWrong : ChangeSpec := { name := "vecRights", fn := fun _ => fun
  | [d] => { results := [.lit (.bool false)], args := [d] }
  | _ => none }
def VecRightsWrongFalsely : Prop := vecRightsRow.holds Try.pinned (OpenSpec.ofChange vecRightsWrong)

/-- 'cenotaphlaw03.VecOnce': WHATEVER THE INPUT: true; the input reads as it did. -/
def vecOnceSpec : ChangeSpec := { name := "vecOnce", fn := fun _ => fun
  | [d1, d2] => { results := [.lit (.bool true)], args := [d1, d2] }
  | _ => none }
def vecOnceRow : OpenClaim := { program := "ytjdhnnpagaocnaa", sum := "b04e1bf2c1b2349cbca910bef7de105f4582604a29f91ebbb34975bbf39c4f1e", func := "cenotaph/cenotaphlaw03.VecOnce", spec := "vecOnce", inPlace := ["internal/bytealg.abigen_runtime_cmpstring", "slices.overlaps[cenotaph/vec.At]"], unfollowed := true, recurses := true, apart := false }
def VecOnceSaid : Prop := vecOnceRow.holds Try.pinned (OpenSpec.ofChange vecOnceSpec)

/-- ITS FALSE NEIGHBOUR: 'it returns false'. Refute it at one input. -/
def vecOnceWrong : ChangeSpec := { name := "vecOnce", fn := fun _ => fun
  | [d1, d2] => { results := [.lit (.bool false)], args := [d1, d2] }
  | _ => none }
def VecOnceWrongFalsely : Prop := vecOnceRow.holds Try.pinned (OpenSpec.ofChange vecOnceWrong)

/-- 'cenotaphlaw03.VecSets': WHATEVER THE INPUT: true; the input reads as it did. -/
def vecSetsSpec : ChangeSpec := { name := "vecSets", fn := fun _ => fun
  | [d1, d2, d3] => { results := [.lit (.bool true)], args := [d1, d2, d3] }
  | _ => none }
def vecSetsRow : OpenClaim := { program := "ytjdhnnpagaocnaa", sum := "b04e1bf2c1b2349cbca910bef7de105f4582604a29f91ebbb34975bbf39c4f1e", func := "cenotaph/cenotaphlaw03.VecSets", spec := "vecSets", inPlace := ["internal/bytealg.abigen_runtime_cmpstring", "slices.overlaps[cenotaph/vec.At]"], unfollowed := true, recurses := true, apart := false }
def VecSetsSaid : Prop := vecSetsRow.holds Try.pinned (OpenSpec.ofChange vecSetsSpec)

/-- ITS FALSE NEIGHBOUR: 'it returns false'. Refute it at one input. -/
def vecSetsWrong : ChangeSpec := { name := "vecSets", fn := fun _ => fun
  | [d1, d2, d3] => { results := [.lit (.bool false)], args := [d1, d2, d3] }
  | _ => none }
def VecSetsWrongFalsely : Prop := vecSetsRow.holds Try.pinned (OpenSpec.ofChange vecSetsWrong)

/-- 'cenotaphlaw03.VecJoins': WHATEVER THE INPUT: true; the input reads as it did. -/
def vecJoinsSpec : ChangeSpec := { name := "vecJoins", fn := fun _ => fun
  | [d1, d2, d3] => { results := [.lit (.bool true)], args := [d1, d2, d3] }
  | _ => none }
def vecJoinsRow : OpenClaim := { program := "ytjdhnnpagaocnaa", sum := "b04e1bf2c1b2349cbca910bef7de105f4582604a29f91ebbb34975bbf39c4f1e", func := "cenotaph/cenotaphlaw03.VecJoins", spec := "vecJoins", inPlace := ["internal/bytealg.abigen_runtime_cmpstring", "slices.overlaps[cenotaph/vec.At]"], unfollowed := true, recurses := true, apart := false }
def VecJoinsSaid : Prop := vecJoinsRow.holds Try.pinned (OpenSpec.ofChange vecJoinsSpec)

/-- ITS FALSE NEIGHBOUR: 'it returns false'. Refute it at one input. -/
def vecJoinsWrong : ChangeSpec := { name := "vecJoins", fn := fun _ => fun
  | [d1, d2, d3] => { results := [.lit (.bool false)], args := [d1, d2, d3] }
  | _ => none }
def VecJoinsWrongFalsely : Prop := vecJoinsRow.holds Try.pinned (OpenSpec.ofChange vecJoinsWrong)

/-- 'cenotaphlaw03.VecGroups': WHATEVER THE INPUT: true; the input reads as it did. -/
def vecGroupsSpec : ChangeSpec := { name := "vecGroups", fn := fun _ => fun
  | [d1, d2, d3] => { results := [.lit (.bool true)], args := [d1, d2, d3] }
  | _ => none }
def vecGroupsRow : OpenClaim := { program := "ytjdhnnpagaocnaa", sum := "b04e1bf2c1b2349cbca910bef7de105f4582604a29f91ebbb34975bbf39c4f1e", func := "cenotaph/cenotaphlaw03.VecGroups", spec := "vecGroups", inPlace := ["internal/bytealg.abigen_runtime_cmpstring", "slices.overlaps[cenotaph/vec.At]"], unfollowed := true, recurses := true, apart := false }
def VecGroupsSaid : Prop := vecGroupsRow.holds Try.pinned (OpenSpec.ofChange vecGroupsSpec)

/-- ITS FALSE NEIGHBOUR: 'it returns false'. Refute it at one input. -/
def vecGroupsWrong : ChangeSpec := { name := "vecGroups", fn := fun _ => fun
  | [d1, d2, d3] => { results := [.lit (.bool false)], args := [d1, d2, d3] }
  | _ => none }
def VecGroupsWrongFalsely : Prop := vecGroupsRow.holds Try.pinned (OpenSpec.ofChange vecGroupsWrong)

/- THE SECOND FORM. 'bulk': how many values and letters a reading holds, each counted each time it is reached (what is shared counts as often as it is met; a slice's spare places count too). A statement '..UptoSaid' is the law's where the arguments, and the package variables that the reading takes, are together of bulk at most 1048576: NARROWER than '..Said'. Prove '..Said' where nothing that the law and all that it calls make is longer than what came in: it says more and counts as full. Else prove '..UptoSaid'. A law counts once. -/
mutual
def uptoBulk {H : Type} : DataW H → Nat
  | .lit (.string bytes) => bytes.length + 1
  | .lit _ => 1
  | .nil => 1
  | .ptr d => uptoBulk d + 1
  | .slice elems spare => uptoBulkAll elems + uptoBulkAll spare + 1
  | .agg parts => uptoBulkAll parts + 1
  | .iface _ d => uptoBulk d + 1
  | .map entries => uptoBulkEntries entries + 1
  | .held _ => 1
def uptoBulkAll {H : Type} : List (DataW H) → Nat
  | [] => 0
  | d :: r => uptoBulk d + uptoBulkAll r
def uptoBulkEntries {H : Type} : List (Lit × DataW H) → Nat
  | [] => 0
  | x :: r => uptoBulkEntry x + uptoBulkEntries r
def uptoBulkEntry {H : Type} : Lit × DataW H → Nat
  | (.string bytes, d) => bytes.length + uptoBulk d + 1
  | (_, d) => uptoBulk d + 1
 end
def uptoSmall : (H : Type) → List (DataW H) → Bool := fun _ ds => decide (uptoBulkAll ds ≤ 1048576)
def OpenSpec.upto (s : _root_.Go.ChangeSpec) : _root_.Go.OpenSpec := { _root_.Go.OpenSpec.ofChange s with cond := some uptoSmall }

/-- 'cenotaphlaw03.VecRights', WHERE WHAT IT READS IS OF BULK AT MOST 1048576: true; the input reads as it did. -/
def vecRightsUptoRow : OpenClaim := { program := "ytjdhnnpagaocnaa", sum := "b04e1bf2c1b2349cbca910bef7de105f4582604a29f91ebbb34975bbf39c4f1e", func := "cenotaph/cenotaphlaw03.VecRights", spec := "vecRights", inPlace := ["internal/bytealg.abigen_runtime_cmpstring", "slices.overlaps[cenotaph/vec.At]"], unfollowed := true, recurses := true, apart := false, narrowed := true }
def VecRightsUptoSaid : Prop := vecRightsUptoRow.holds Try.pinned (OpenSpec.upto vecRightsSpec)

/-- 'cenotaphlaw03.VecOnce', WHERE WHAT IT READS IS OF BULK AT MOST 1048576: true; the input reads as it did. -/
def vecOnceUptoRow : OpenClaim := { program := "ytjdhnnpagaocnaa", sum := "b04e1bf2c1b2349cbca910bef7de105f4582604a29f91ebbb34975bbf39c4f1e", func := "cenotaph/cenotaphlaw03.VecOnce", spec := "vecOnce", inPlace := ["internal/bytealg.abigen_runtime_cmpstring", "slices.overlaps[cenotaph/vec.At]"], unfollowed := true, recurses := true, apart := false, narrowed := true }
def VecOnceUptoSaid : Prop := vecOnceUptoRow.holds Try.pinned (OpenSpec.upto vecOnceSpec)

/-- 'cenotaphlaw03.VecSets', WHERE WHAT IT READS IS OF BULK AT MOST 1048576: true; the input reads as it did. -/
def vecSetsUptoRow : OpenClaim := { program := "ytjdhnnpagaocnaa", sum := "b04e1bf2c1b2349cbca910bef7de105f4582604a29f91ebbb34975bbf39c4f1e", func := "cenotaph/cenotaphlaw03.VecSets", spec := "vecSets", inPlace := ["internal/bytealg.abigen_runtime_cmpstring", "slices.overlaps[cenotaph/vec.At]"], unfollowed := true, recurses := true, apart := false, narrowed := true }
def VecSetsUptoSaid : Prop := vecSetsUptoRow.holds Try.pinned (OpenSpec.upto vecSetsSpec)

/-- 'cenotaphlaw03.VecJoins', WHERE WHAT IT READS IS OF BULK AT MOST 1048576: true; the input reads as it did. -/
def vecJoinsUptoRow : OpenClaim := { program := "ytjdhnnpagaocnaa", sum := "b04e1bf2c1b2349cbca910bef7de105f4582604a29f91ebbb34975bbf39c4f1e", func := "cenotaph/cenotaphlaw03.VecJoins", spec := "vecJoins", inPlace := ["internal/bytealg.abigen_runtime_cmpstring", "slices.overlaps[cenotaph/vec.At]"], unfollowed := true, recurses := true, apart := false, narrowed := true }
def VecJoinsUptoSaid : Prop := vecJoinsUptoRow.holds Try.pinned (OpenSpec.upto vecJoinsSpec)

/-- 'cenotaphlaw03.VecGroups', WHERE WHAT IT READS IS OF BULK AT MOST 1048576: true; the input reads as it did. -/
def vecGroupsUptoRow : OpenClaim := { program := "ytjdhnnpagaocnaa", sum := "b04e1bf2c1b2349cbca910bef7de105f4582604a29f91ebbb34975bbf39c4f1e", func := "cenotaph/cenotaphlaw03.VecGroups", spec := "vecGroups", inPlace := ["internal/bytealg.abigen_runtime_cmpstring", "slices.overlaps[cenotaph/vec.At]"], unfollowed := true, recurses := true, apart := false, narrowed := true }
def VecGroupsUptoSaid : Prop := vecGroupsUptoRow.holds Try.pinned (OpenSpec.upto vecGroupsSpec)

end Rows
end Go.Proofs.Ytjdhnnpagaocnaa
