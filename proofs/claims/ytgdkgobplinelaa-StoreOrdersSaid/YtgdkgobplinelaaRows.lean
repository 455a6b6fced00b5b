/-
  No cell of these rows narrows 'for every input' (looked for: loops, veiled, ifaces, maps, wideKeys, modest, calm, conditions, laid).
  DERIVED. THE GIVEN ROWS OF THIS SEAT. 5 by the template 'for every input the law returns true; each argument reads behind the call as it read before'; 0 by the template 'total and deterministic' (their statements: YtgdkgobplinelaaTotals.lean).
  GIVEN WITH THE SEED: the statements are not yours to turn. If you find one false, say at which input.
  Laid BY PROGRAM, IN A SANDBOX (cutbox-rows.mjs): the forced cells as the released guide's own fill.sh prints them over the translation 731de90a49f0be0f… (all of the seat's roots in one cut). By AI agents, Wed Nov 11 2026. No macro, syntax, notation, axiom, sorry.
-/
import Derived.Test.YtgdkgobplinelaaChecked
import GoSem.Claim
import GoSem.ClaimJoined
import GoSem.ClaimMapViews
import Derived.JoinedTies
import Derived.KernelRfl
namespace Go.Proofs.Ytgdkgobplinelaa
/- THE CELL 'sum', in the pinned program and in every row, IS THE sha256 OF THE DUMP (.gsa) THAT YtgdkgobplinelaaProg.lean LOADS. Nothing in Lean hashes anything: it is a label: what it is worth is what the hold of that sum in a sandbox is worth. -/
noncomputable def Try.pinned : Pinned := { name := "ytgdkgobplinelaa", sum := "731de90a49f0be0fcbe6df6fc51ef7afba31671572f30d6723baf84315fae413", checked := Try.checked }
namespace Rows
def none {H : Type} : Left H := { results := [], args := [] }

/-- 'cenotaphlaw08.StorePuts': WHATEVER THE INPUT: true; the input reads as it did. -/
def storePutsSpec : ChangeSpec := { name := "storePuts", fn := fun _ => fun
  | [d1, d2, d3] => { results := [.lit (.bool true)], args := [d1, d2, d3] }
  | _ => none }
def storePutsRow : OpenClaim := { program := "ytgdkgobplinelaa", sum := "731de90a49f0be0fcbe6df6fc51ef7afba31671572f30d6723baf84315fae413", func := "cenotaph/cenotaphlaw08.StorePuts", spec := "storePuts", inPlace := ["slices.overlaps[cenotaph/item.Item]", "internal/bytealg.abigen_runtime_cmpstring", "math.archTrunc", "math.Float64bits", "math.Float64frombits"], unfollowed := true, recurses := true, apart := false }
def StorePutsSaid : Prop := storePutsRow.holds Try.pinned (OpenSpec.ofChange storePutsSpec)

/-- ITS FALSE NEIGHBOUR: 'it returns false'. Refute it at one input. -/
def storePutsWrong : ChangeSpec := { name := "storePuts", fn := fun _ => fun
  | [d1, d2, d3] => { results := [.lit (.bool false)], args := [d1, d2, d3] }
  | _ => none }
def StorePutsWrongFalsely : Prop := storePutsRow.holds Try.pinned (OpenSpec.ofChange storePutsWrong)

/-- 'cenotaphlaw08.StoreOrders': WHATEVER THE INPUT: true; the input reads as it did. -/
def storeOrdersSpec : ChangeSpec := { name := "storeOrders", fn := fun _ => fun
  | [d1, d2] => { results := [.lit (.bool true)], args := [d1, d2] }
  | _ => none }
def storeOrdersRow : OpenClaim := { program := "ytgdkgobplinelaa", sum := "731de90a49f0be0fcbe6df6fc51ef7afba31671572f30d6723baf84315fae413", func := "cenotaph/cenotaphlaw08.StoreOrders", spec := "storeOrders", inPlace := ["slices.overlaps[cenotaph/item.Item]", "internal/bytealg.abigen_runtime_cmpstring", "math.archTrunc", "math.Float64bits", "math.Float64frombits"], unfollowed := true, recurses := true, apart := false }
def StoreOrdersSaid : Prop := storeOrdersRow.holds Try.pinned (OpenSpec.ofChange storeOrdersSpec)

/-- ITS FALSE NEIGHBOUR: 'it returns false'. Refute it at one input. -/
def storeOrdersWrong : ChangeSpec := { name := "storeOrders", fn := fun _ => fun
  | [d1, d2] => { results := [.lit (.bool false)], args := [d1, d2] }
  | _ => none }
def StoreOrdersWrongFalsely : Prop := storeOrdersRow.holds Try.pinned (OpenSpec.ofChange storeOrdersWrong)

/-- 'cenotaphlaw08.StoreKeeps': WHATEVER THE INPUT: true; the input reads as it did. -/
def storeKeepsSpec : ChangeSpec := { name := "storeKeeps", fn := fun _ => fun
  | [d1, d2, d3] => { results := [.lit (.bool true)], args := [d1, d2, d3] }
  | _ => none }
def storeKeepsRow : OpenClaim := { program := "ytgdkgobplinelaa", sum := "731de90a49f0be0fcbe6df6fc51ef7afba31671572f30d6723baf84315fae413", func := "cenotaph/cenotaphlaw08.StoreKeeps", spec := "storeKeeps", inPlace := ["slices.overlaps[cenotaph/item.Item]", "internal/bytealg.abigen_runtime_cmpstring", "math.archTrunc", "math.Float64bits", "math.Float64frombits"], unfollowed := true, recurses := true, apart := false }
def StoreKeepsSaid : Prop := storeKeepsRow.holds Try.pinned (OpenSpec.ofChange storeKeepsSpec)

/-- ITS FALSE NEIGHBOUR: 'it returns false'. Refute it at one input. -/
def storeKeepsWrong : ChangeSpec := { name := "storeKeeps", fn := fun _ => fun
  | [d1, d2, d3] => { results := [.lit (.bool false)], args := [d1, d2, d3] }
  | _ => none }
def StoreKeepsWrongFalsely : Prop := storeKeepsRow.holds Try.pinned (OpenSpec.ofChange storeKeepsWrong)

/-- 'cenotaphlaw08.StoreRights': WHATEVER THE INPUT: true; the input reads as it did. -/
def storeRightsSpec : ChangeSpec := { name := "storeRights", fn := fun _ => fun
  | [d1, d2] => { results := [.lit (.bool true)], args := [d1, d2] }
  | _ => none }
def storeRightsRow : OpenClaim := { program := "ytgdkgobplinelaa", sum := "731de90a49f0be0fcbe6df6fc51ef7afba31671572f30d6723baf84315fae413", func := "cenotaph/cenotaphlaw08.StoreRights", spec := "storeRights", inPlace := ["slices.overlaps[cenotaph/item.Item]", "internal/bytealg.abigen_runtime_cmpstring", "math.archTrunc", "math.Float64bits", "math.Float64frombits"], unfollowed := true, recurses := true, apart := false }
def StoreRightsSaid : Prop := storeRightsRow.holds Try.pinned (OpenSpec.ofChange storeRightsSpec)

/-- ITS FALSE NEIGHBOUR: 'it returns false'. Refute it at one input. -/
def storeRightsWrong : ChangeSpec := { name := "storeRights", fn := fun _ => fun
  | [d1, d2] => { results := [.lit (.bool false)], args := [d1, d2] }
  | _ => none }
def StoreRightsWrongFalsely : Prop := storeRightsRow.holds Try.pinned (OpenSpec.ofChange storeRightsWrong)

/-- 'cenotaphlaw08.StoreAges': WHATEVER THE INPUT: true; the input reads as it did. -/
def storeAgesSpec : ChangeSpec := { name := "storeAges", fn := fun _ => fun
  | [d1, d2] => { results := [.lit (.bool true)], args := [d1, d2] }
  | _ => none }
def storeAgesRow : OpenClaim := { program := "ytgdkgobplinelaa", sum := "731de90a49f0be0fcbe6df6fc51ef7afba31671572f30d6723baf84315fae413", func := "cenotaph/cenotaphlaw08.StoreAges", spec := "storeAges", inPlace := ["slices.overlaps[cenotaph/item.Item]", "internal/bytealg.abigen_runtime_cmpstring", "math.archTrunc", "math.Float64bits", "math.Float64frombits"], unfollowed := true, recurses := true, apart := false }
def StoreAgesSaid : Prop := storeAgesRow.holds Try.pinned (OpenSpec.ofChange storeAgesSpec)

/-- ITS FALSE NEIGHBOUR: 'it returns false'. Refute it at one input. -/
def storeAgesWrong : ChangeSpec := { name := "storeAges", fn := fun _ => fun
  | [d1, d2] => { results := [.lit (.bool false)], args := [d1, d2] }
  | _ => none }
def StoreAgesWrongFalsely : Prop := storeAgesRow.holds Try.pinned (OpenSpec.ofChange storeAgesWrong)

/- THE SECOND FORM. 'bulk': how many values and letters a reading holds, each counted each time it is reached (what is shared counts as often as it is met; a slice's spare places count too). A statement '..UptoSaid' is the law's where the arguments, and the package variables that the reading takes, are together of bulk at most 1048576: NARROWER than '..Said'. Prove '..Said' where nothing that the law and all that it calls make is longer than what came in: it says more and counts as full. Else prove '..UptoSaid'. A law counts once. -/
mutual
def uptoBulk {H : Type} : DataW H → Nat
  | .lit (.string bytes) => bytes.length + 1
  | .lit _ => 1
  | .nil => 1
  | .ptr d => uptoBulk d + 1
  | .slice elems spare => uptoBulkAll elems + uptoBulkAll spare + 1
  | .agg parts => uptoBulkAll parts + 1
  | .iface _ d => uptoBulk d + 1
  | .map entries => uptoBulkEntries entries + 1
  | .held _ => 1
def uptoBulkAll {H : Type} : List (DataW H) → Nat
  | [] => 0
  | d :: r => uptoBulk d + uptoBulkAll r
def uptoBulkEntries {H : Type} : List (Lit × DataW H) → Nat
  | [] => 0
  | x :: r => uptoBulkEntry x + uptoBulkEntries r
def uptoBulkEntry {H : Type} : Lit × DataW H → Nat
  | (.string bytes, d) => bytes.length + uptoBulk d + 1
  | (_, d) => uptoBulk d + 1
 end
def uptoSmall : (H : Type) → List (DataW H) → Bool := fun _ ds => decide (uptoBulkAll ds ≤ 1048576)
def OpenSpec.upto (s : _root_.Go.ChangeSpec) : _root_.Go.OpenSpec := { _root_.Go.OpenSpec.ofChange s with cond := some uptoSmall }

/-- 'cenotaphlaw08.StorePuts', WHERE WHAT IT READS IS OF BULK AT MOST 1048576: true; the input reads as it did. -/
def storePutsUptoRow : OpenClaim := { program := "ytgdkgobplinelaa", sum := "731de90a49f0be0fcbe6df6fc51ef7afba31671572f30d6723baf84315fae413", func := "cenotaph/cenotaphlaw08.StorePuts", spec := "storePuts", inPlace := ["slices.overlaps[cenotaph/item.Item]", "internal/bytealg.abigen_runtime_cmpstring", "math.archTrunc", "math.Float64bits", "math.Float64frombits"], unfollowed := true, recurses := true, apart := false, narrowed := true }
def StorePutsUptoSaid : Prop := storePutsUptoRow.holds Try.pinned (OpenSpec.upto storePutsSpec)

/-- 'cenotaphlaw08.StoreOrders', WHERE WHAT IT READS IS OF BULK AT MOST 1048576: true; the input reads as it did. -/
def storeOrdersUptoRow : OpenClaim := { program := "ytgdkgobplinelaa", sum := "731de90a49f0be0fcbe6df6fc51ef7afba31671572f30d6723baf84315fae413", func := "cenotaph/cenotaphlaw08.StoreOrders", spec := "storeOrders", inPlace := ["slices.overlaps[cenotaph/item.Item]", "internal/bytealg.abigen_runtime_cmpstring", "math.archTrunc", "math.Float64bits", "math.Float64frombits"], unfollowed := true, recurses := true, apart := false, narrowed := true }
def StoreOrdersUptoSaid : Prop := storeOrdersUptoRow.holds Try.pinned (OpenSpec.upto storeOrdersSpec)

/-- 'cenotaphlaw08.StoreKeeps', WHERE WHAT IT READS IS OF BULK AT MOST 1048576: true; the input reads as it did. -/
def storeKeepsUptoRow : OpenClaim := { program := "ytgdkgobplinelaa", sum := "731de90a49f0be0fcbe6df6fc51ef7afba31671572f30d6723baf84315fae413", func := "cenotaph/cenotaphlaw08.StoreKeeps", spec := "storeKeeps", inPlace := ["slices.overlaps[cenotaph/item.Item]", "internal/bytealg.abigen_runtime_cmpstring", "math.archTrunc", "math.Float64bits", "math.Float64frombits"], unfollowed := true, recurses := true, apart := false, narrowed := true }
def StoreKeepsUptoSaid : Prop := storeKeepsUptoRow.holds Try.pinned (OpenSpec.upto storeKeepsSpec)

/-- 'cenotaphlaw08.StoreRights', WHERE WHAT IT READS IS OF BULK AT MOST 1048576: true; the input reads as it did. -/
def storeRightsUptoRow : OpenClaim := { program := "ytgdkgobplinelaa", sum := "731de90a49f0be0fcbe6df6fc51ef7afba31671572f30d6723baf84315fae413", func := "cenotaph/cenotaphlaw08.StoreRights", spec := "storeRights", inPlace := ["slices.overlaps[cenotaph/item.Item]", "internal/bytealg.abigen_runtime_cmpstring", "math.archTrunc", "math.Float64bits", "math.Float64frombits"], unfollowed := true, recurses := true, apart := false, narrowed := true }
def StoreRightsUptoSaid : Prop := storeRightsUptoRow.holds Try.pinned (OpenSpec.upto storeRightsSpec)

/-- 'cenotaphlaw08.StoreAges', WHERE WHAT IT READS IS OF BULK AT MOST 1048576: true; the input reads as it did. -/
def storeAgesUptoRow : OpenClaim := { program := "ytgdkgobplinelaa", sum := "731de90a49f0be0fcbe6df6fc51ef7afba31671572f30d6723baf84315fae413", func := "cenotaph/cenotaphlaw08.StoreAges", spec := "storeAges", inPlace := ["slices.overlaps[cenotaph/item.Item]", "internal/bytealg.abigen_runtime_cmpstring", "math.archTrunc", "math.Float64bits", "math.Float64frombits"], unfollowed := true, recurses := true, apart := false, narrowed := true }
def StoreAgesUptoSaid : Prop := storeAgesUptoRow.holds Try.pinned (OpenSpec.upto storeAgesSpec)

end Rows
end Go.Proofs.Ytgdkgobplinelaa
