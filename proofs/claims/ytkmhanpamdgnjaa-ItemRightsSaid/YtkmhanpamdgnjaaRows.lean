/-
  No cell of these rows narrows 'for every input' (looked for: loops, veiled, ifaces, maps, wideKeys, modest, calm, conditions, laid).
  DERIVED. THE GIVEN ROWS OF THIS SEAT. 6 by the template 'for every input the law returns true; each argument reads behind the call as it read before'; 0 by the template 'total and deterministic' (their statements: YtkmhanpamdgnjaaTotals.lean).
  GIVEN WITH THE SEED: the statements are not yours to turn. If you find one false, say at which input.
  Laid BY PROGRAM, IN A SANDBOX (cutbox-rows.mjs): the forced cells as the released guide's own fill.sh prints them over the translation 38c7d36659fdff62… (all of the seat's roots in one cut). By AI agents, Wed Nov 11 2026. No macro, syntax, notation, axiom, sorry.
-/
import Derived.Test.YtkmhanpamdgnjaaChecked
import GoSem.Claim
import GoSem.ClaimJoined
import GoSem.ClaimMapViews
import Derived.JoinedTies
import Derived.KernelRfl
namespace Go.Proofs.Ytkmhanpamdgnjaa
/- THE CELL 'sum', in the pinned program and in every row, IS THE sha256 OF THE DUMP (.gsa) THAT YtkmhanpamdgnjaaProg.lean LOADS. Nothing in Lean hashes anything: it is a label: what it is worth is what the hold of that sum in a sandbox is worth. -/
noncomputable def Try.pinned : Pinned := { name := "ytkmhanpamdgnjaa", sum := "38c7d36659fdff62e91daf7e79d68343bdb0d5ea3585e7d58d34b7a7577d9712", checked := Try.checked }
namespace Rows
def none {H : Type} : Left H := { results := [], args := [] }

/-- 'cenotaphlaw07.ItemNewer': WHATEVER THE INPUT: true; the input reads as it did. -/
def itemNewerSpec : ChangeSpec := { name := "itemNewer", fn := fun _ => fun
  | [d1, d2, d3] => { results := [.lit (.bool true)], args := [d1, d2, d3] }
  | _ => none }
def itemNewerRow : OpenClaim := { program := "ytkmhanpamdgnjaa", sum := "38c7d36659fdff62e91daf7e79d68343bdb0d5ea3585e7d58d34b7a7577d9712", func := "cenotaph/cenotaphlaw07.ItemNewer", spec := "itemNewer", inPlace := ["internal/bytealg.abigen_runtime_cmpstring", "math.archTrunc", "math.Float64bits", "math.Float64frombits"], apart := false }
def ItemNewerSaid : Prop := itemNewerRow.holds Try.pinned (OpenSpec.ofChange itemNewerSpec)

/-- ITS FALSE NEIGHBOUR: 'it returns false'. Refute it at one input. -/
def itemNewerWrong : ChangeSpec := { name := "itemNewer", fn := fun _ => fun
  | [d1, d2, d3] => { results := [.lit (.bool false)], args := [d1, d2, d3] }
  | _ => none }
def ItemNewerWrongFalsely : Prop := itemNewerRow.holds Try.pinned (OpenSpec.ofChange itemNewerWrong)

/-- 'cenotaphlaw07.ItemTakes': WHATEVER THE INPUT: true; the input reads as it did. -/
def itemTakesSpec : ChangeSpec := { name := "itemTakes", fn := fun _ => fun
  | [d] => { results := [.lit (.bool true)], args := [d] }
  | _ => none }
def itemTakesRow : OpenClaim := { program := "ytkmhanpamdgnjaa", sum := "38c7d36659fdff62e91daf7e79d68343bdb0d5ea3585e7d58d34b7a7577d9712", func := "cenotaph/cenotaphlaw07.ItemTakes", spec := "itemTakes", inPlace := ["math.archTrunc", "math.Float64bits", "math.Float64frombits", "internal/bytealg.abigen_runtime_cmpstring"], apart := false }
def ItemTakesSaid : Prop := itemTakesRow.holds Try.pinned (OpenSpec.ofChange itemTakesSpec)

/-- ITS FALSE NEIGHBOUR: 'it returns false'. Refute it at one input. -/
def itemTakesWrong : ChangeSpec := { name := "itemTakes", fn := fun _ => fun
  | [d] => { results := [.lit (.bool false)], args := [d] }
  | _ => none }
def ItemTakesWrongFalsely : Prop := itemTakesRow.holds Try.pinned (OpenSpec.ofChange itemTakesWrong)

/-- 'cenotaphlaw07.ItemOnce': WHATEVER THE INPUT: true; the input reads as it did. -/
def itemOnceSpec : ChangeSpec := { name := "itemOnce", fn := fun _ => fun
  | [d1, d2] => { results := [.lit (.bool true)], args := [d1, d2] }
  | _ => none }
def itemOnceRow : OpenClaim := { program := "ytkmhanpamdgnjaa", sum := "38c7d36659fdff62e91daf7e79d68343bdb0d5ea3585e7d58d34b7a7577d9712", func := "cenotaph/cenotaphlaw07.ItemOnce", spec := "itemOnce", inPlace := ["math.archTrunc", "math.Float64bits", "math.Float64frombits", "internal/bytealg.abigen_runtime_cmpstring"], apart := false }
def ItemOnceSaid : Prop := itemOnceRow.holds Try.pinned (OpenSpec.ofChange itemOnceSpec)

/-- ITS FALSE NEIGHBOUR: 'it returns false'. Refute it at one input. -/
def itemOnceWrong : ChangeSpec := { name := "itemOnce", fn := fun _ => fun
  | [d1, d2] => { results := [.lit (.bool false)], args := [d1, d2] }
  | _ => none }
def ItemOnceWrongFalsely : Prop := itemOnceRow.holds Try.pinned (OpenSpec.ofChange itemOnceWrong)

/-- 'cenotaphlaw07.ItemRights': WHATEVER THE INPUT: true; the input reads as it did. -/
def itemRightsSpec : ChangeSpec := { name := "itemRights", fn := fun _ => fun
  | [d] => { results := [.lit (.bool true)], args := [d] }
  | _ => none }
def itemRightsRow : OpenClaim := { program := "ytkmhanpamdgnjaa", sum := "38c7d36659fdff62e91daf7e79d68343bdb0d5ea3585e7d58d34b7a7577d9712", func := "cenotaph/cenotaphlaw07.ItemRights", spec := "itemRights", inPlace := ["math.archTrunc", "math.Float64bits", "math.Float64frombits", "internal/bytealg.abigen_runtime_cmpstring"], apart := false }
def ItemRightsSaid : Prop := itemRightsRow.holds Try.pinned (OpenSpec.ofChange itemRightsSpec)

/-- ITS FALSE NEIGHBOUR: 'it returns false'. Refute it at one input. -/
def itemRightsWrong : ChangeSpec := { name := "itemRights", fn := fun _ => fun
  | [d] => { results := [.lit (.bool false)], args := [d] }
  | _ => none }
def ItemRightsWrongFalsely : Prop := itemRightsRow.holds Try.pinned (OpenSpec.ofChange itemRightsWrong)

/-- 'cenotaphlaw07.ItemStubs': WHATEVER THE INPUT: true; the input reads as it did. -/
def itemStubsSpec : ChangeSpec := { name := "itemStubs", fn := fun _ => fun
  | [d] => { results := [.lit (.bool true)], args := [d] }
  | _ => none }
def itemStubsRow : OpenClaim := { program := "ytkmhanpamdgnjaa", sum := "38c7d36659fdff62e91daf7e79d68343bdb0d5ea3585e7d58d34b7a7577d9712", func := "cenotaph/cenotaphlaw07.ItemStubs", spec := "itemStubs", inPlace := ["math.archTrunc", "math.Float64bits", "math.Float64frombits", "internal/bytealg.abigen_runtime_cmpstring"], apart := false }
def ItemStubsSaid : Prop := itemStubsRow.holds Try.pinned (OpenSpec.ofChange itemStubsSpec)

/-- ITS FALSE NEIGHBOUR: 'it returns false'. Refute it at one input. -/
def itemStubsWrong : ChangeSpec := { name := "itemStubs", fn := fun _ => fun
  | [d] => { results := [.lit (.bool false)], args := [d] }
  | _ => none }
def ItemStubsWrongFalsely : Prop := itemStubsRow.holds Try.pinned (OpenSpec.ofChange itemStubsWrong)

/-- 'cenotaphlaw07.ItemPuts': WHATEVER THE INPUT: true; the input reads as it did. -/
def itemPutsSpec : ChangeSpec := { name := "itemPuts", fn := fun _ => fun
  | [d] => { results := [.lit (.bool true)], args := [d] }
  | _ => none }
def itemPutsRow : OpenClaim := { program := "ytkmhanpamdgnjaa", sum := "38c7d36659fdff62e91daf7e79d68343bdb0d5ea3585e7d58d34b7a7577d9712", func := "cenotaph/cenotaphlaw07.ItemPuts", spec := "itemPuts", inPlace := ["math.archTrunc", "math.Float64bits", "math.Float64frombits", "internal/bytealg.abigen_runtime_cmpstring"], apart := false }
def ItemPutsSaid : Prop := itemPutsRow.holds Try.pinned (OpenSpec.ofChange itemPutsSpec)

/-- ITS FALSE NEIGHBOUR: 'it returns false'. Refute it at one input. -/
def itemPutsWrong : ChangeSpec := { name := "itemPuts", fn := fun _ => fun
  | [d] => { results := [.lit (.bool false)], args := [d] }
  | _ => none }
def ItemPutsWrongFalsely : Prop := itemPutsRow.holds Try.pinned (OpenSpec.ofChange itemPutsWrong)

/- THE SECOND FORM. 'bulk': how many values and letters a reading holds, each counted each time it is reached (what is shared counts as often as it is met; a slice's spare places count too). A statement '..UptoSaid' is the law's where the arguments, and the package variables that the reading takes, are together of bulk at most 1048576: NARROWER than '..Said'. Prove '..Said' where nothing that the law and all that it calls make is longer than what came in: it says more and counts as full. Else prove '..UptoSaid'. A law counts once. -/
mutual
def uptoBulk {H : Type} : DataW H → Nat
  | .lit (.string bytes) => bytes.length + 1
  | .lit _ => 1
  | .nil => 1
  | .ptr d => uptoBulk d + 1
  | .slice elems spare => uptoBulkAll elems + uptoBulkAll spare + 1
  | .agg parts => uptoBulkAll parts + 1
  | .iface _ d => uptoBulk d + 1
  | .map entries => uptoBulkEntries entries + 1
  | .held _ => 1
def uptoBulkAll {H : Type} : List (DataW H) → Nat
  | [] => 0
  | d :: r => uptoBulk d + uptoBulkAll r
def uptoBulkEntries {H : Type} : List (Lit × DataW H) → Nat
  | [] => 0
  | x :: r => uptoBulkEntry x + uptoBulkEntries r
def uptoBulkEntry {H : Type} : Lit × DataW H → Nat
  | (.string bytes, d) => bytes.length + uptoBulk d + 1
  | (_, d) => uptoBulk d + 1
 end
def uptoSmall : (H : Type) → List (DataW H) → Bool := fun _ ds => decide (uptoBulkAll ds ≤ 1048576)
def OpenSpec.upto (s : _root_.Go.ChangeSpec) : _root_.Go.OpenSpec := { _root_.Go.OpenSpec.ofChange s with cond := some uptoSmall }

/-- 'cenotaphlaw07.ItemNewer', WHERE WHAT IT READS IS OF BULK AT MOST 1048576: true; the input reads as it did. -/
def itemNewerUptoRow : OpenClaim := { program := "ytkmhanpamdgnjaa", sum := "38c7d36659fdff62e91daf7e79d68343bdb0d5ea3585e7d58d34b7a7577d9712", func := "cenotaph/cenotaphlaw07.ItemNewer", spec := "itemNewer", inPlace := ["internal/bytealg.abigen_runtime_cmpstring", "math.archTrunc", "math.Float64bits", "math.Float64frombits"], apart := false, narrowed := true }
def ItemNewerUptoSaid : Prop := itemNewerUptoRow.holds Try.pinned (OpenSpec.upto itemNewerSpec)

/-- 'cenotaphlaw07.ItemTakes', WHERE WHAT IT READS IS OF BULK AT MOST 1048576: true; the input reads as it did. -/
def itemTakesUptoRow : OpenClaim := { program := "ytkmhanpamdgnjaa", sum := "38c7d36659fdff62e91daf7e79d68343bdb0d5ea3585e7d58d34b7a7577d9712", func := "cenotaph/cenotaphlaw07.ItemTakes", spec := "itemTakes", inPlace := ["math.archTrunc", "math.Float64bits", "math.Float64frombits", "internal/bytealg.abigen_runtime_cmpstring"], apart := false, narrowed := true }
def ItemTakesUptoSaid : Prop := itemTakesUptoRow.holds Try.pinned (OpenSpec.upto itemTakesSpec)

/-- 'cenotaphlaw07.ItemOnce', WHERE WHAT IT READS IS OF BULK AT MOST 1048576: true; the input reads as it did. -/
def itemOnceUptoRow : OpenClaim := { program := "ytkmhanpamdgnjaa", sum := "38c7d36659fdff62e91daf7e79d68343bdb0d5ea3585e7d58d34b7a7577d9712", func := "cenotaph/cenotaphlaw07.ItemOnce", spec := "itemOnce", inPlace := ["math.archTrunc", "math.Float64bits", "math.Float64frombits", "internal/bytealg.abigen_runtime_cmpstring"], apart := false, narrowed := true }
def ItemOnceUptoSaid : Prop := itemOnceUptoRow.holds Try.pinned (OpenSpec.upto itemOnceSpec)

/-- 'cenotaphlaw07.ItemRights', WHERE WHAT IT READS IS OF BULK AT MOST 1048576: true; the input reads as it did. -/
def itemRightsUptoRow : OpenClaim := { program := "ytkmhanpamdgnjaa", sum := "38c7d36659fdff62e91daf7e79d68343bdb0d5ea3585e7d58d34b7a7577d9712", func := "cenotaph/cenotaphlaw07.ItemRights", spec := "itemRights", inPlace := ["math.archTrunc", "math.Float64bits", "math.Float64frombits", "internal/bytealg.abigen_runtime_cmpstring"], apart := false, narrowed := true }
def ItemRightsUptoSaid : Prop := itemRightsUptoRow.holds Try.pinned (OpenSpec.upto itemRightsSpec)

/-- 'cenotaphlaw07.ItemStubs', WHERE WHAT IT READS IS OF BULK AT MOST 1048576: true; the input reads as it did. -/
def itemStubsUptoRow : OpenClaim := { program := "ytkmhanpamdgnjaa", sum := "38c7d36659fdff62e91daf7e79d68343bdb0d5ea3585e7d58d34b7a7577d9712", func := "cenotaph/cenotaphlaw07.ItemStubs", spec := "itemStubs", inPlace := ["math.archTrunc", "math.Float64bits", "math.Float64frombits", "internal/bytealg.abigen_runtime_cmpstring"], apart := false, narrowed := true }
def ItemStubsUptoSaid : Prop := itemStubsUptoRow.holds Try.pinned (OpenSpec.upto itemStubsSpec)

/-- 'cenotaphlaw07.ItemPuts', WHERE WHAT IT READS IS OF BULK AT MOST 1048576: true; the input reads as it did. -/
def itemPutsUptoRow : OpenClaim := { program := "ytkmhanpamdgnjaa", sum := "38c7d36659fdff62e91daf7e79d68343bdb0d5ea3585e7d58d34b7a7577d9712", func := "cenotaph/cenotaphlaw07.ItemPuts", spec := "itemPuts", inPlace := ["math.archTrunc", "math.Float64bits", "math.Float64frombits", "internal/bytealg.abigen_runtime_cmpstring"], apart := false, narrowed := true }
def ItemPutsUptoSaid : Prop := itemPutsUptoRow.holds Try.pinned (OpenSpec.upto itemPutsSpec)

end Rows
end Go.Proofs.Ytkmhanpamdgnjaa
