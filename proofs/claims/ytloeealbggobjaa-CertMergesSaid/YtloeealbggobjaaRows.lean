/-
  No cell of these rows narrows 'for every input' (looked for: loops, veiled, ifaces, maps, wideKeys, modest, calm, conditions, laid).
  DERIVED. THE GIVEN ROWS OF THIS SEAT. 3 by the template 'for every input the law returns true; each argument reads behind the call as it read before'; 0 by the template 'total and deterministic' (their statements: YtloeealbggobjaaTotals.lean).
  GIVEN WITH THE SEED: the statements are not yours to turn. If you find one false, say at which input.
  Laid BY PROGRAM, IN A SANDBOX (cutbox-rows.mjs): the forced cells as the released guide's own fill.sh prints them over the translation bd015ef9c748d285… (all of the seat's roots in one cut). By AI agents, Wed Nov 11 2026. No macro, syntax, notation, axiom, sorry.
-/
import Derived.Test.YtloeealbggobjaaChecked
import GoSem.Claim
import GoSem.ClaimJoined
import GoSem.ClaimMapViews
import Derived.JoinedTies
import Derived.KernelRfl
namespace Go.Proofs.Ytloeealbggobjaa
/- THE CELL 'sum', in the pinned program and in every row, IS THE sha256 OF THE DUMP (.gsa) THAT YtloeealbggobjaaProg.lean LOADS. Nothing in Lean hashes anything: it is a label: what it is worth is what the hold of that sum in a sandbox is worth. -/
noncomputable def Try.pinned : Pinned := { name := "ytloeealbggobjaa", sum := "bd015ef9c748d2855af8fd1d02fd7193f15701b31c4d9a0149c467d372d7dcdb", checked := Try.checked }
namespace Rows
def none {H : Type} : Left H := { results := [], args := [] }

/-- 'cenotaphlaw09.CertPuts': WHATEVER THE INPUT: true; the input reads as it did. -/
def certPutsSpec : ChangeSpec := { name := "certPuts", fn := fun _ => fun
  | [d1, d2, d3] => { results := [.lit (.bool true)], args := [d1, d2, d3] }
  | _ => none }
def certPutsRow : OpenClaim := { program := "ytloeealbggobjaa", sum := "bd015ef9c748d2855af8fd1d02fd7193f15701b31c4d9a0149c467d372d7dcdb", func := "cenotaph/cenotaphlaw09.CertPuts", spec := "certPuts", inPlace := ["internal/bytealg.abigen_runtime_cmpstring", "slices.overlaps[cenotaph/vec.At]"], unfollowed := true, recurses := true, apart := false }
def CertPutsSaid : Prop := certPutsRow.holds Try.pinned (OpenSpec.ofChange certPutsSpec)

/-- ITS FALSE NEIGHBOUR: 'it returns false'. Refute it at one input. -/
def certPutsWrong : ChangeSpec := { name := "certPuts", fn := fun _ => fun
  | [d1, d2, d3] => { results := [.lit (.bool false)], args := [d1, d2, d3] }
  | _ => none }
def CertPutsWrongFalsely : Prop := certPutsRow.holds Try.pinned (OpenSpec.ofChange certPutsWrong)

/-- 'cenotaphlaw09.CertLives': WHATEVER THE INPUT: true; the input reads as it did. -/
def certLivesSpec : ChangeSpec := { name := "certLives", fn := fun _ => fun
  | [d1, d2, d3] => { results := [.lit (.bool true)], args := [d1, d2, d3] }
  | _ => none }
def certLivesRow : OpenClaim := { program := "ytloeealbggobjaa", sum := "bd015ef9c748d2855af8fd1d02fd7193f15701b31c4d9a0149c467d372d7dcdb", func := "cenotaph/cenotaphlaw09.CertLives", spec := "certLives", inPlace := ["internal/bytealg.abigen_runtime_cmpstring", "slices.overlaps[cenotaph/vec.At]"], unfollowed := true, recurses := true, apart := false }
def CertLivesSaid : Prop := certLivesRow.holds Try.pinned (OpenSpec.ofChange certLivesSpec)

/-- ITS FALSE NEIGHBOUR: 'it returns false'. Refute it at one input. -/
def certLivesWrong : ChangeSpec := { name := "certLives", fn := fun _ => fun
  | [d1, d2, d3] => { results := [.lit (.bool false)], args := [d1, d2, d3] }
  | _ => none }
def CertLivesWrongFalsely : Prop := certLivesRow.holds Try.pinned (OpenSpec.ofChange certLivesWrong)

/-- 'cenotaphlaw09.CertMerges': WHATEVER THE INPUT: true; the input reads as it did. -/
def certMergesSpec : ChangeSpec := { name := "certMerges", fn := fun _ => fun
  | [d1, d2, d3] => { results := [.lit (.bool true)], args := [d1, d2, d3] }
  | _ => none }
def certMergesRow : OpenClaim := { program := "ytloeealbggobjaa", sum := "bd015ef9c748d2855af8fd1d02fd7193f15701b31c4d9a0149c467d372d7dcdb", func := "cenotaph/cenotaphlaw09.CertMerges", spec := "certMerges", inPlace := ["internal/bytealg.abigen_runtime_cmpstring", "slices.overlaps[cenotaph/vec.At]"], unfollowed := true, recurses := true, apart := false }
def CertMergesSaid : Prop := certMergesRow.holds Try.pinned (OpenSpec.ofChange certMergesSpec)

/-- ITS FALSE NEIGHBOUR: 'it returns false'. Refute it at one input. -/
def certMergesWrong : ChangeSpec := { name := "certMerges", fn := fun _ => fun
  | [d1, d2, d3] => { results := [.lit (.bool false)], args := [d1, d2, d3] }
  | _ => none }
def CertMergesWrongFalsely : Prop := certMergesRow.holds Try.pinned (OpenSpec.ofChange certMergesWrong)

/- THE SECOND FORM. 'bulk': how many values and letters a reading holds, each counted each time it is reached (what is shared counts as often as it is met; a slice's spare places count too). A statement '..UptoSaid' is the law's where the arguments, and the package variables that the reading takes, are together of bulk at most 1048576: NARROWER than '..Said'. Prove '..Said' where nothing that the law and all that it calls make is longer than what came in: it says more and counts as full. Else prove '..UptoSaid'. A law counts once. -/
mutual
def uptoBulk {H : Type} : DataW H → Nat
  | .lit (.string bytes) => bytes.length + 1
  | .lit _ => 1
  | .nil => 1
  | .ptr d => uptoBulk d + 1
  | .slice elems spare => uptoBulkAll elems + uptoBulkAll spare + 1
  | .agg parts => uptoBulkAll parts + 1
  | .iface _ d => uptoBulk d + 1
  | .map entries => uptoBulkEntries entries + 1
  | .held _ => 1
def uptoBulkAll {H : Type} : List (DataW H) → Nat
  | [] => 0
  | d :: r => uptoBulk d + uptoBulkAll r
def uptoBulkEntries {H : Type} : List (Lit × DataW H) → Nat
  | [] => 0
  | x :: r => uptoBulkEntry x + uptoBulkEntries r
def uptoBulkEntry {H : Type} : Lit × DataW H → Nat
  | (.string bytes, d) => bytes.length + uptoBulk d + 1
  | (_, d) => uptoBulk d + 1
 end
def uptoSmall : (H : Type) → List (DataW H) → Bool := fun _ ds => decide (uptoBulkAll ds ≤ 1048576)
def OpenSpec.upto (s : _root_.Go.ChangeSpec) : _root_.Go.OpenSpec := { _root_.Go.OpenSpec.ofChange s with cond := some uptoSmall }

/-- 'cenotaphlaw09.CertPuts', WHERE WHAT IT READS IS OF BULK AT MOST 1048576: true; the input reads as it did. -/
def certPutsUptoRow : OpenClaim := { program := "ytloeealbggobjaa", sum := "bd015ef9c748d2855af8fd1d02fd7193f15701b31c4d9a0149c467d372d7dcdb", func := "cenotaph/cenotaphlaw09.CertPuts", spec := "certPuts", inPlace := ["internal/bytealg.abigen_runtime_cmpstring", "slices.overlaps[cenotaph/vec.At]"], unfollowed := true, recurses := true, apart := false, narrowed := true }
def CertPutsUptoSaid : Prop := certPutsUptoRow.holds Try.pinned (OpenSpec.upto certPutsSpec)

/-- 'cenotaphlaw09.CertLives', WHERE WHAT IT READS IS OF BULK AT MOST 1048576: true; the input reads as it did. -/
def certLivesUptoRow : OpenClaim := { program := "ytloeealbggobjaa", sum := "bd015ef9c748d2855af8fd1d02fd7193f15701b31c4d9a0149c467d372d7dcdb", func := "cenotaph/cenotaphlaw09.CertLives", spec := "certLives", inPlace := ["internal/bytealg.abigen_runtime_cmpstring", "slices.overlaps[cenotaph/vec.At]"], unfollowed := true, recurses := true, apart := false, narrowed := true }
def CertLivesUptoSaid : Prop := certLivesUptoRow.holds Try.pinned (OpenSpec.upto certLivesSpec)

/-- 'cenotaphlaw09.CertMerges', WHERE WHAT IT READS IS OF BULK AT MOST 1048576: true; the input reads as it did. -/
def certMergesUptoRow : OpenClaim := { program := "ytloeealbggobjaa", sum := "bd015ef9c748d2855af8fd1d02fd7193f15701b31c4d9a0149c467d372d7dcdb", func := "cenotaph/cenotaphlaw09.CertMerges", spec := "certMerges", inPlace := ["internal/bytealg.abigen_runtime_cmpstring", "slices.overlaps[cenotaph/vec.At]"], unfollowed := true, recurses := true, apart := false, narrowed := true }
def CertMergesUptoSaid : Prop := certMergesUptoRow.holds Try.pinned (OpenSpec.upto certMergesSpec)

end Rows
end Go.Proofs.Ytloeealbggobjaa
