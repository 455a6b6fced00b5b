/-
  No cell of these rows narrows 'for every input' (looked for: loops, veiled, ifaces, maps, wideKeys, modest, calm, conditions, laid).
  DERIVED. THE GIVEN ROWS OF THIS SEAT. 7 by the template 'for every input the law returns true; each argument reads behind the call as it read before'; 0 by the template 'total and deterministic' (their statements: YtejoofeigeoboaaTotals.lean).
  GIVEN WITH THE SEED: the statements are not yours to turn. If you find one false, say at which input.
  Laid BY PROGRAM, IN A SANDBOX (cutbox-rows.mjs): the forced cells as the released guide's own fill.sh prints them over the translation f02748a08eaaac5d… (all of the seat's roots in one cut). By AI agents, Wed Nov 11 2026. No macro, syntax, notation, axiom, sorry.
-/
import Derived.Test.YtejoofeigeoboaaChecked
import GoSem.Claim
import GoSem.ClaimJoined
import GoSem.ClaimMapViews
import Derived.JoinedTies
import Derived.KernelRfl
namespace Go.Proofs.Ytejoofeigeoboaa
/- THE CELL 'sum', in the pinned program and in every row, IS THE sha256 OF THE DUMP (.gsa) THAT YtejoofeigeoboaaProg.lean LOADS. Nothing in Lean hashes anything: it is a label: what it is worth is what the hold of that sum in a sandbox is worth. -/
noncomputable def Try.pinned : Pinned := { name := "ytejoofeigeoboaa", sum := "f02748a08eaaac5de86e6f24c9c6fb0b747c97b5a1ae79095509a3a5d863056d", checked := Try.checked }
namespace Rows
def none {H : Type} : Left H := { results := [], args := [] }

/-- 'cenotaphlaw02.SpanFirsts': WHATEVER THE INPUT: true; the input reads as it did. -/
def spanFirstsSpec : ChangeSpec := { name := "spanFirsts", fn := fun _ => fun
  | [d1, d2] => { results := [.lit (.bool true)], args := [d1, d2] }
  | _ => none }
def spanFirstsRow : OpenClaim := { program := "ytejoofeigeoboaa", sum := "f02748a08eaaac5de86e6f24c9c6fb0b747c97b5a1ae79095509a3a5d863056d", func := "cenotaph/cenotaphlaw02.SpanFirsts", spec := "spanFirsts", recurses := true, apart := false }
def SpanFirstsSaid : Prop := spanFirstsRow.holds Try.pinned (OpenSpec.ofChange spanFirstsSpec)

/-- ITS FALSE NEIGHBOUR: 'it returns false'. Refute it at one input. -/
def spanFirstsWrong : ChangeSpec := { name := "spanFirsts", fn := fun _ => fun
  | [d1, d2] => { results := [.lit (.bool false)], args := [d1, d2] }
  | _ => none }
def SpanFirstsWrongFalsely : Prop := spanFirstsRow.holds Try.pinned (OpenSpec.ofChange spanFirstsWrong)

/-- 'cenotaphlaw02.SpanRights': WHATEVER THE INPUT: true; the input reads as it did. -/
def spanRightsSpec : ChangeSpec := { name := "spanRights", fn := fun _ => fun
  | [d] => { results := [.lit (.bool true)], args := [d] }
  | _ => none }
def spanRightsRow : OpenClaim := { program := "ytejoofeigeoboaa", sum := "f02748a08eaaac5de86e6f24c9c6fb0b747c97b5a1ae79095509a3a5d863056d", func := "cenotaph/cenotaphlaw02.SpanRights", spec := "spanRights", recurses := true, apart := false }
def SpanRightsSaid : Prop := spanRightsRow.holds Try.pinned (OpenSpec.ofChange spanRightsSpec)

/-- ITS FALSE NEIGHBOUR: 'it returns false'. Refute it at one input. -/
def spanRightsWrong : ChangeSpec := { name := "spanRights", fn := fun _ => fun
  | [d] => { results := [.lit (.bool false)], args := [d] }
  | _ => none }
def SpanRightsWrongFalsely : Prop := spanRightsRow.holds Try.pinned (OpenSpec.ofChange spanRightsWrong)

/-- 'cenotaphlaw02.SpanAdds': WHATEVER THE INPUT: true; the input reads as it did. -/
def spanAddsSpec : ChangeSpec := { name := "spanAdds", fn := fun _ => fun
  | [d1, d2] => { results := [.lit (.bool true)], args := [d1, d2] }
  | _ => none }
def spanAddsRow : OpenClaim := { program := "ytejoofeigeoboaa", sum := "f02748a08eaaac5de86e6f24c9c6fb0b747c97b5a1ae79095509a3a5d863056d", func := "cenotaph/cenotaphlaw02.SpanAdds", spec := "spanAdds", recurses := true, apart := false }
def SpanAddsSaid : Prop := spanAddsRow.holds Try.pinned (OpenSpec.ofChange spanAddsSpec)

/-- ITS FALSE NEIGHBOUR: 'it returns false'. Refute it at one input. -/
def spanAddsWrong : ChangeSpec := { name := "spanAdds", fn := fun _ => fun
  | [d1, d2] => { results := [.lit (.bool false)], args := [d1, d2] }
  | _ => none }
def SpanAddsWrongFalsely : Prop := spanAddsRow.holds Try.pinned (OpenSpec.ofChange spanAddsWrong)

/-- 'cenotaphlaw02.SpanGroups': WHATEVER THE INPUT: true; the input reads as it did. -/
def spanGroupsSpec : ChangeSpec := { name := "spanGroups", fn := fun _ => fun
  | [d1, d2, d3] => { results := [.lit (.bool true)], args := [d1, d2, d3] }
  | _ => none }
def spanGroupsRow : OpenClaim := { program := "ytejoofeigeoboaa", sum := "f02748a08eaaac5de86e6f24c9c6fb0b747c97b5a1ae79095509a3a5d863056d", func := "cenotaph/cenotaphlaw02.SpanGroups", spec := "spanGroups", recurses := true, apart := false }
def SpanGroupsSaid : Prop := spanGroupsRow.holds Try.pinned (OpenSpec.ofChange spanGroupsSpec)

/-- ITS FALSE NEIGHBOUR: 'it returns false'. Refute it at one input. -/
def spanGroupsWrong : ChangeSpec := { name := "spanGroups", fn := fun _ => fun
  | [d1, d2, d3] => { results := [.lit (.bool false)], args := [d1, d2, d3] }
  | _ => none }
def SpanGroupsWrongFalsely : Prop := spanGroupsRow.holds Try.pinned (OpenSpec.ofChange spanGroupsWrong)

/-- 'cenotaphlaw02.SpanHoles': WHATEVER THE INPUT: true; the input reads as it did. -/
def spanHolesSpec : ChangeSpec := { name := "spanHoles", fn := fun _ => fun
  | [d] => { results := [.lit (.bool true)], args := [d] }
  | _ => none }
def spanHolesRow : OpenClaim := { program := "ytejoofeigeoboaa", sum := "f02748a08eaaac5de86e6f24c9c6fb0b747c97b5a1ae79095509a3a5d863056d", func := "cenotaph/cenotaphlaw02.SpanHoles", spec := "spanHoles", recurses := true, apart := false }
def SpanHolesSaid : Prop := spanHolesRow.holds Try.pinned (OpenSpec.ofChange spanHolesSpec)

/-- ITS FALSE NEIGHBOUR: 'it returns false'. Refute it at one input. -/
def spanHolesWrong : ChangeSpec := { name := "spanHoles", fn := fun _ => fun
  | [d] => { results := [.lit (.bool false)], args := [d] }
  | _ => none }
def SpanHolesWrongFalsely : Prop := spanHolesRow.holds Try.pinned (OpenSpec.ofChange spanHolesWrong)

/-- 'cenotaphlaw02.SpanOrders': WHATEVER THE INPUT: true; the input reads as it did. -/
def spanOrdersSpec : ChangeSpec := { name := "spanOrders", fn := fun _ => fun
  | [d1, d2] => { results := [.lit (.bool true)], args := [d1, d2] }
  | _ => none }
def spanOrdersRow : OpenClaim := { program := "ytejoofeigeoboaa", sum := "f02748a08eaaac5de86e6f24c9c6fb0b747c97b5a1ae79095509a3a5d863056d", func := "cenotaph/cenotaphlaw02.SpanOrders", spec := "spanOrders", recurses := true, apart := false }
def SpanOrdersSaid : Prop := spanOrdersRow.holds Try.pinned (OpenSpec.ofChange spanOrdersSpec)

/-- ITS FALSE NEIGHBOUR: 'it returns false'. Refute it at one input. -/
def spanOrdersWrong : ChangeSpec := { name := "spanOrders", fn := fun _ => fun
  | [d1, d2] => { results := [.lit (.bool false)], args := [d1, d2] }
  | _ => none }
def SpanOrdersWrongFalsely : Prop := spanOrdersRow.holds Try.pinned (OpenSpec.ofChange spanOrdersWrong)

/-- 'cenotaphlaw02.SpanUnions': WHATEVER THE INPUT: true; the input reads as it did. -/
def spanUnionsSpec : ChangeSpec := { name := "spanUnions", fn := fun _ => fun
  | [d1, d2] => { results := [.lit (.bool true)], args := [d1, d2] }
  | _ => none }
def spanUnionsRow : OpenClaim := { program := "ytejoofeigeoboaa", sum := "f02748a08eaaac5de86e6f24c9c6fb0b747c97b5a1ae79095509a3a5d863056d", func := "cenotaph/cenotaphlaw02.SpanUnions", spec := "spanUnions", recurses := true, apart := false }
def SpanUnionsSaid : Prop := spanUnionsRow.holds Try.pinned (OpenSpec.ofChange spanUnionsSpec)

/-- ITS FALSE NEIGHBOUR: 'it returns false'. Refute it at one input. -/
def spanUnionsWrong : ChangeSpec := { name := "spanUnions", fn := fun _ => fun
  | [d1, d2] => { results := [.lit (.bool false)], args := [d1, d2] }
  | _ => none }
def SpanUnionsWrongFalsely : Prop := spanUnionsRow.holds Try.pinned (OpenSpec.ofChange spanUnionsWrong)

/- THE SECOND FORM. 'bulk': how many values and letters a reading holds, each counted each time it is reached (what is shared counts as often as it is met; a slice's spare places count too). A statement '..UptoSaid' is the law's where the arguments, and the package variables that the reading takes, are together of bulk at most 1048576: NARROWER than '..Said'. Prove '..Said' where nothing that the law and all that it calls make is longer than what came in: it says more and counts as full. Else prove '..UptoSaid'. A law counts once. -/
mutual
def uptoBulk {H : Type} : DataW H → Nat
  | .lit (.string bytes) => bytes.length + 1
  | .lit _ => 1
  | .nil => 1
  | .ptr d => uptoBulk d + 1
  | .slice elems spare => uptoBulkAll elems + uptoBulkAll spare + 1
  | .agg parts => uptoBulkAll parts + 1
  | .iface _ d => uptoBulk d + 1
  | .map entries => uptoBulkEntries entries + 1
  | .held _ => 1
def uptoBulkAll {H : Type} : List (DataW H) → Nat
  | [] => 0
  | d :: r => uptoBulk d + uptoBulkAll r
def uptoBulkEntries {H : Type} : List (Lit × DataW H) → Nat
  | [] => 0
  | x :: r => uptoBulkEntry x + uptoBulkEntries r
def uptoBulkEntry {H : Type} : Lit × DataW H → Nat
  | (.string bytes, d) => bytes.length + uptoBulk d + 1
  | (_, d) => uptoBulk d + 1
 end
def uptoSmall : (H : Type) → List (DataW H) → Bool := fun _ ds => decide (uptoBulkAll ds ≤ 1048576)
def OpenSpec.upto (s : _root_.Go.ChangeSpec) : _root_.Go.OpenSpec := { _root_.Go.OpenSpec.ofChange s with cond := some uptoSmall }

/-- 'cenotaphlaw02.SpanFirsts', WHERE WHAT IT READS IS OF BULK AT MOST 1048576: true; the input reads as it did. -/
def spanFirstsUptoRow : OpenClaim := { program := "ytejoofeigeoboaa", sum := "f02748a08eaaac5de86e6f24c9c6fb0b747c97b5a1ae79095509a3a5d863056d", func := "cenotaph/cenotaphlaw02.SpanFirsts", spec := "spanFirsts", recurses := true, apart := false, narrowed := true }
def SpanFirstsUptoSaid : Prop := spanFirstsUptoRow.holds Try.pinned (OpenSpec.upto spanFirstsSpec)

/-- 'cenotaphlaw02.SpanRights', WHERE WHAT IT READS IS OF BULK AT MOST 1048576: true; the input reads as it did. -/
def spanRightsUptoRow : OpenClaim := { program := "ytejoofeigeoboaa", sum := "f02748a08eaaac5de86e6f24c9c6fb0b747c97b5a1ae79095509a3a5d863056d", func := "cenotaph/cenotaphlaw02.SpanRights", spec := "spanRights", recurses := true, apart := false, narrowed := true }
def SpanRightsUptoSaid : Prop := spanRightsUptoRow.holds Try.pinned (OpenSpec.upto spanRightsSpec)

/-- 'cenotaphlaw02.SpanAdds', WHERE WHAT IT READS IS OF BULK AT MOST 1048576: true; the input reads as it did. -/
def spanAddsUptoRow : OpenClaim := { program := "ytejoofeigeoboaa", sum := "f02748a08eaaac5de86e6f24c9c6fb0b747c97b5a1ae79095509a3a5d863056d", func := "cenotaph/cenotaphlaw02.SpanAdds", spec := "spanAdds", recurses := true, apart := false, narrowed := true }
def SpanAddsUptoSaid : Prop := spanAddsUptoRow.holds Try.pinned (OpenSpec.upto spanAddsSpec)

/-- 'cenotaphlaw02.SpanGroups', WHERE WHAT IT READS IS OF BULK AT MOST 1048576: true; the input reads as it did. -/
def spanGroupsUptoRow : OpenClaim := { program := "ytejoofeigeoboaa", sum := "f02748a08eaaac5de86e6f24c9c6fb0b747c97b5a1ae79095509a3a5d863056d", func := "cenotaph/cenotaphlaw02.SpanGroups", spec := "spanGroups", recurses := true, apart := false, narrowed := true }
def SpanGroupsUptoSaid : Prop := spanGroupsUptoRow.holds Try.pinned (OpenSpec.upto spanGroupsSpec)

/-- 'cenotaphlaw02.SpanHoles', WHERE WHAT IT READS IS OF BULK AT MOST 1048576: true; the input reads as it did. -/
def spanHolesUptoRow : OpenClaim := { program := "ytejoofeigeoboaa", sum := "f02748a08eaaac5de86e6f24c9c6fb0b747c97b5a1ae79095509a3a5d863056d", func := "cenotaph/cenotaphlaw02.SpanHoles", spec := "spanHoles", recurses := true, apart := false, narrowed := true }
def SpanHolesUptoSaid : Prop := spanHolesUptoRow.holds Try.pinned (OpenSpec.upto spanHolesSpec)

/-- 'cenotaphlaw02.SpanOrders', WHERE WHAT IT READS IS OF BULK AT MOST 1048576: true; the input reads as it did. -/
def spanOrdersUptoRow : OpenClaim := { program := "ytejoofeigeoboaa", sum := "f02748a08eaaac5de86e6f24c9c6fb0b747c97b5a1ae79095509a3a5d863056d", func := "cenotaph/cenotaphlaw02.SpanOrders", spec := "spanOrders", recurses := true, apart := false, narrowed := true }
def SpanOrdersUptoSaid : Prop := spanOrdersUptoRow.holds Try.pinned (OpenSpec.upto spanOrdersSpec)

/-- 'cenotaphlaw02.SpanUnions', WHERE WHAT IT READS IS OF BULK AT MOST 1048576: true; the input reads as it did. -/
def spanUnionsUptoRow : OpenClaim := { program := "ytejoofeigeoboaa", sum := "f02748a08eaaac5de86e6f24c9c6fb0b747c97b5a1ae79095509a3a5d863056d", func := "cenotaph/cenotaphlaw02.SpanUnions", spec := "spanUnions", recurses := true, apart := false, narrowed := true }
def SpanUnionsUptoSaid : Prop := spanUnionsUptoRow.holds Try.pinned (OpenSpec.upto spanUnionsSpec)

end Rows
end Go.Proofs.Ytejoofeigeoboaa
