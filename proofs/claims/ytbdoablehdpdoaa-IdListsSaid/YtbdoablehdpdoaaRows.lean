/-
  No cell of these rows narrows 'for every input' (looked for: loops, veiled, ifaces, maps, wideKeys, modest, calm, conditions, laid).
  DERIVED. THE GIVEN ROWS OF THIS SEAT. 6 by the template 'for every input the law returns true; each argument reads behind the call as it read before'; 0 by the template 'total and deterministic' (their statements: YtbdoablehdpdoaaTotals.lean).
  GIVEN WITH THE SEED: the statements are not yours to turn. If you find one false, say at which input.
  Laid BY PROGRAM, IN A SANDBOX (cutbox-rows.mjs): the forced cells as the released guide's own fill.sh prints them over the translation c9df49002938a44f… (all of the seat's roots in one cut). By AI agents, Wed Nov 11 2026. No macro, syntax, notation, axiom, sorry.
-/
import Derived.Test.YtbdoablehdpdoaaChecked
import GoSem.Claim
import GoSem.ClaimJoined
import GoSem.ClaimMapViews
import Derived.JoinedTies
import Derived.KernelRfl
namespace Go.Proofs.Ytbdoablehdpdoaa
/- THE CELL 'sum', in the pinned program and in every row, IS THE sha256 OF THE DUMP (.gsa) THAT YtbdoablehdpdoaaProg.lean LOADS. Nothing in Lean hashes anything: it is a label: what it is worth is what the hold of that sum in a sandbox is worth. -/
noncomputable def Try.pinned : Pinned := { name := "ytbdoablehdpdoaa", sum := "c9df49002938a44f48341c23b14c2b70442730aaa4aefa67aed0a4070d0746a3", checked := Try.checked }
namespace Rows
def none {H : Type} : Left H := { results := [], args := [] }

/-- 'cenotaphlaw01.IdChilds': WHATEVER THE INPUT: true; the input reads as it did. -/
def idChildsSpec : ChangeSpec := { name := "idChilds", fn := fun _ => fun
  | [d1, d2, d3] => { results := [.lit (.bool true)], args := [d1, d2, d3] }
  | _ => none }
def idChildsRow : OpenClaim := { program := "ytbdoablehdpdoaa", sum := "c9df49002938a44f48341c23b14c2b70442730aaa4aefa67aed0a4070d0746a3", func := "cenotaph/cenotaphlaw01.IdChilds", spec := "idChilds", apart := false }
def IdChildsSaid : Prop := idChildsRow.holds Try.pinned (OpenSpec.ofChange idChildsSpec)

/-- ITS FALSE NEIGHBOUR: 'it returns false'. Refute it at one input. -/
def idChildsWrong : ChangeSpec := { name := "idChilds", fn := fun _ => fun
  | [d1, d2, d3] => { results := [.lit (.bool false)], args := [d1, d2, d3] }
  | _ => none }
def IdChildsWrongFalsely : Prop := idChildsRow.holds Try.pinned (OpenSpec.ofChange idChildsWrong)

/-- 'cenotaphlaw01.IdParents': WHATEVER THE INPUT: true; the input reads as it did. -/
def idParentsSpec : ChangeSpec := { name := "idParents", fn := fun _ => fun
  | [d] => { results := [.lit (.bool true)], args := [d] }
  | _ => none }
def idParentsRow : OpenClaim := { program := "ytbdoablehdpdoaa", sum := "c9df49002938a44f48341c23b14c2b70442730aaa4aefa67aed0a4070d0746a3", func := "cenotaph/cenotaphlaw01.IdParents", spec := "idParents", apart := false }
def IdParentsSaid : Prop := idParentsRow.holds Try.pinned (OpenSpec.ofChange idParentsSpec)

/-- ITS FALSE NEIGHBOUR: 'it returns false'. Refute it at one input. -/
def idParentsWrong : ChangeSpec := { name := "idParents", fn := fun _ => fun
  | [d] => { results := [.lit (.bool false)], args := [d] }
  | _ => none }
def IdParentsWrongFalsely : Prop := idParentsRow.holds Try.pinned (OpenSpec.ofChange idParentsWrong)

/-- 'cenotaphlaw01.IdNames': WHATEVER THE INPUT: true; the input reads as it did. -/
def idNamesSpec : ChangeSpec := { name := "idNames", fn := fun _ => fun
  | [d] => { results := [.lit (.bool true)], args := [d] }
  | _ => none }
def idNamesRow : OpenClaim := { program := "ytbdoablehdpdoaa", sum := "c9df49002938a44f48341c23b14c2b70442730aaa4aefa67aed0a4070d0746a3", func := "cenotaph/cenotaphlaw01.IdNames", spec := "idNames", apart := false }
def IdNamesSaid : Prop := idNamesRow.holds Try.pinned (OpenSpec.ofChange idNamesSpec)

/-- ITS FALSE NEIGHBOUR: 'it returns false'. Refute it at one input. -/
def idNamesWrong : ChangeSpec := { name := "idNames", fn := fun _ => fun
  | [d] => { results := [.lit (.bool false)], args := [d] }
  | _ => none }
def IdNamesWrongFalsely : Prop := idNamesRow.holds Try.pinned (OpenSpec.ofChange idNamesWrong)

/-- 'cenotaphlaw01.IdOrders': WHATEVER THE INPUT: true; the input reads as it did. -/
def idOrdersSpec : ChangeSpec := { name := "idOrders", fn := fun _ => fun
  | [d1, d2, d3] => { results := [.lit (.bool true)], args := [d1, d2, d3] }
  | _ => none }
def idOrdersRow : OpenClaim := { program := "ytbdoablehdpdoaa", sum := "c9df49002938a44f48341c23b14c2b70442730aaa4aefa67aed0a4070d0746a3", func := "cenotaph/cenotaphlaw01.IdOrders", spec := "idOrders", inPlace := ["internal/bytealg.abigen_runtime_cmpstring"], apart := false }
def IdOrdersSaid : Prop := idOrdersRow.holds Try.pinned (OpenSpec.ofChange idOrdersSpec)

/-- ITS FALSE NEIGHBOUR: 'it returns false'. Refute it at one input. -/
def idOrdersWrong : ChangeSpec := { name := "idOrders", fn := fun _ => fun
  | [d1, d2, d3] => { results := [.lit (.bool false)], args := [d1, d2, d3] }
  | _ => none }
def IdOrdersWrongFalsely : Prop := idOrdersRow.holds Try.pinned (OpenSpec.ofChange idOrdersWrong)

/-- 'cenotaphlaw01.IdAboves': WHATEVER THE INPUT: true; the input reads as it did. -/
def idAbovesSpec : ChangeSpec := { name := "idAboves", fn := fun _ => fun
  | [d1, d2, d3] => { results := [.lit (.bool true)], args := [d1, d2, d3] }
  | _ => none }
def idAbovesRow : OpenClaim := { program := "ytbdoablehdpdoaa", sum := "c9df49002938a44f48341c23b14c2b70442730aaa4aefa67aed0a4070d0746a3", func := "cenotaph/cenotaphlaw01.IdAboves", spec := "idAboves", inPlace := ["internal/bytealg.abigen_runtime_cmpstring"], apart := false }
def IdAbovesSaid : Prop := idAbovesRow.holds Try.pinned (OpenSpec.ofChange idAbovesSpec)

/-- ITS FALSE NEIGHBOUR: 'it returns false'. Refute it at one input. -/
def idAbovesWrong : ChangeSpec := { name := "idAboves", fn := fun _ => fun
  | [d1, d2, d3] => { results := [.lit (.bool false)], args := [d1, d2, d3] }
  | _ => none }
def IdAbovesWrongFalsely : Prop := idAbovesRow.holds Try.pinned (OpenSpec.ofChange idAbovesWrong)

/-- 'cenotaphlaw01.IdLists': WHATEVER THE INPUT: true; the input reads as it did. -/
def idListsSpec : ChangeSpec := { name := "idLists", fn := fun _ => fun
  | [d1, d2, d3] => { results := [.lit (.bool true)], args := [d1, d2, d3] }
  | _ => none }
def idListsRow : OpenClaim := { program := "ytbdoablehdpdoaa", sum := "c9df49002938a44f48341c23b14c2b70442730aaa4aefa67aed0a4070d0746a3", func := "cenotaph/cenotaphlaw01.IdLists", spec := "idLists", inPlace := ["internal/bytealg.abigen_runtime_cmpstring"], unfollowed := true, recurses := true, apart := false }
def IdListsSaid : Prop := idListsRow.holds Try.pinned (OpenSpec.ofChange idListsSpec)

/-- ITS FALSE NEIGHBOUR: 'it returns false'. Refute it at one input. -/
def idListsWrong : ChangeSpec := { name := "idLists", fn := fun _ => fun
  | [d1, d2, d3] => { results := [.lit (.bool false)], args := [d1, d2, d3] }
  | _ => none }
def IdListsWrongFalsely : Prop := idListsRow.holds Try.pinned (OpenSpec.ofChange idListsWrong)

/- THE SECOND FORM. 'bulk': how many values and letters a reading holds, each counted each time it is reached (what is shared counts as often as it is met; a slice's spare places count too). A statement '..UptoSaid' is the law's where the arguments, and the package variables that the reading takes, are together of bulk at most 1048576: NARROWER than '..Said'. Prove '..Said' where nothing that the law and all that it calls make is longer than what came in: it says more and counts as full. Else prove '..UptoSaid'. A law counts once. -/
mutual
def uptoBulk {H : Type} : DataW H → Nat
  | .lit (.string bytes) => bytes.length + 1
  | .lit _ => 1
  | .nil => 1
  | .ptr d => uptoBulk d + 1
  | .slice elems spare => uptoBulkAll elems + uptoBulkAll spare + 1
  | .agg parts => uptoBulkAll parts + 1
  | .iface _ d => uptoBulk d + 1
  | .map entries => uptoBulkEntries entries + 1
  | .held _ => 1
def uptoBulkAll {H : Type} : List (DataW H) → Nat
  | [] => 0
  | d :: r => uptoBulk d + uptoBulkAll r
def uptoBulkEntries {H : Type} : List (Lit × DataW H) → Nat
  | [] => 0
  | x :: r => uptoBulkEntry x + uptoBulkEntries r
def uptoBulkEntry {H : Type} : Lit × DataW H → Nat
  | (.string bytes, d) => bytes.length + uptoBulk d + 1
  | (_, d) => uptoBulk d + 1
 end
def uptoSmall : (H : Type) → List (DataW H) → Bool := fun _ ds => decide (uptoBulkAll ds ≤ 1048576)
def OpenSpec.upto (s : _root_.Go.ChangeSpec) : _root_.Go.OpenSpec := { _root_.Go.OpenSpec.ofChange s with cond := some uptoSmall }

/-- 'cenotaphlaw01.IdChilds', WHERE WHAT IT READS IS OF BULK AT MOST 1048576: true; the input reads as it did. -/
def idChildsUptoRow : OpenClaim := { program := "ytbdoablehdpdoaa", sum := "c9df49002938a44f48341c23b14c2b70442730aaa4aefa67aed0a4070d0746a3", func := "cenotaph/cenotaphlaw01.IdChilds", spec := "idChilds", apart := false, narrowed := true }
def IdChildsUptoSaid : Prop := idChildsUptoRow.holds Try.pinned (OpenSpec.upto idChildsSpec)

/-- 'cenotaphlaw01.IdParents', WHERE WHAT IT READS IS OF BULK AT MOST 1048576: true; the input reads as it did. -/
def idParentsUptoRow : OpenClaim := { program := "ytbdoablehdpdoaa", sum := "c9df49002938a44f48341c23b14c2b70442730aaa4aefa67aed0a4070d0746a3", func := "cenotaph/cenotaphlaw01.IdParents", spec := "idParents", apart := false, narrowed := true }
def IdParentsUptoSaid : Prop := idParentsUptoRow.holds Try.pinned (OpenSpec.upto idParentsSpec)

/-- 'cenotaphlaw01.IdNames', WHERE WHAT IT READS IS OF BULK AT MOST 1048576: true; the input reads as it did. -/
def idNamesUptoRow : OpenClaim := { program := "ytbdoablehdpdoaa", sum := "c9df49002938a44f48341c23b14c2b70442730aaa4aefa67aed0a4070d0746a3", func := "cenotaph/cenotaphlaw01.IdNames", spec := "idNames", apart := false, narrowed := true }
def IdNamesUptoSaid : Prop := idNamesUptoRow.holds Try.pinned (OpenSpec.upto idNamesSpec)

/-- 'cenotaphlaw01.IdOrders', WHERE WHAT IT READS IS OF BULK AT MOST 1048576: true; the input reads as it did. -/
def idOrdersUptoRow : OpenClaim := { program := "ytbdoablehdpdoaa", sum := "c9df49002938a44f48341c23b14c2b70442730aaa4aefa67aed0a4070d0746a3", func := "cenotaph/cenotaphlaw01.IdOrders", spec := "idOrders", inPlace := ["internal/bytealg.abigen_runtime_cmpstring"], apart := false, narrowed := true }
def IdOrdersUptoSaid : Prop := idOrdersUptoRow.holds Try.pinned (OpenSpec.upto idOrdersSpec)

/-- 'cenotaphlaw01.IdAboves', WHERE WHAT IT READS IS OF BULK AT MOST 1048576: true; the input reads as it did. -/
def idAbovesUptoRow : OpenClaim := { program := "ytbdoablehdpdoaa", sum := "c9df49002938a44f48341c23b14c2b70442730aaa4aefa67aed0a4070d0746a3", func := "cenotaph/cenotaphlaw01.IdAboves", spec := "idAboves", inPlace := ["internal/bytealg.abigen_runtime_cmpstring"], apart := false, narrowed := true }
def IdAbovesUptoSaid : Prop := idAbovesUptoRow.holds Try.pinned (OpenSpec.upto idAbovesSpec)

/-- 'cenotaphlaw01.IdLists', WHERE WHAT IT READS IS OF BULK AT MOST 1048576: true; the input reads as it did. -/
def idListsUptoRow : OpenClaim := { program := "ytbdoablehdpdoaa", sum := "c9df49002938a44f48341c23b14c2b70442730aaa4aefa67aed0a4070d0746a3", func := "cenotaph/cenotaphlaw01.IdLists", spec := "idLists", inPlace := ["internal/bytealg.abigen_runtime_cmpstring"], unfollowed := true, recurses := true, apart := false, narrowed := true }
def IdListsUptoSaid : Prop := idListsUptoRow.holds Try.pinned (OpenSpec.upto idListsSpec)

end Rows
end Go.Proofs.Ytbdoablehdpdoaa
