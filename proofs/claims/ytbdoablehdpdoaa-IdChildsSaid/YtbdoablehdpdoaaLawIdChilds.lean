/- IdChilds: of all names and numbers the child is told, or why there is none; a child comes from its parent; two children are one just if their parents and their numbers are. No condition beyond the statement's own. -/
-- Written by a program of this session (wip/pp.py over the kit's printer, with our own texts put in).
import Derived.Test.YtbdoablehdpdoaaRows
import Derived.Test.YtbdoablehdpdoaaP2
import Derived.Test.YtbdoablehdpdoaaPureIdChilds
import Derived.Test.YtbdoablehdpdoaaOpen
import Derived.WalkKit
import Derived.ProofKit
import Derived.OpenShut
import Derived.ShutString
import Derived.ChangeOld
import Derived.Below
import Derived.SizedLaws
namespace Go.Proofs.Ytbdoablehdpdoaa.idChilds
open Go.ChangeShapes Go.WideShapes Go.ChangeAt Go.RowKit Go.Proofs.Ytbdoablehdpdoaa.P Go.Proofs.YtbdoablehdpdoaaW.PrintWords
open Go.ChangeMaps (open_string shut_string)
set_option linter.unusedVariables false
theorem own : ownKnob Try.prog.godebug = none := by kernel_rfl
theorem laidOut : laidOutB Try.prog = true := by kernel_rfl
instance : Inhabited S22 := ⟨z22⟩
theorem op22 : Opens Try.prog 22 k22 (fun y => (fun x => (Lit.int .i64 x).wf = true) y.f0 ∧ (fun x => (Lit.int .i64 x).wf = true) y.f1) := opens_array2 (α := Int) (fun y : S22 => (y.f0, y.f1)) (fun p => (⟨p.1, p.2⟩ : S22)) (fun _ => rfl) Try.underlying22 (by kernel_rfl) (by kernel_rfl) (opens_int Try.underlying3)
set_option maxRecDepth 100000 in
theorem lifted (os : Os) (started : os.Started) (H : Type) (enc : TypeId × Value → H) :
    ReturnsInHanded {} Try.checked os 3 .any (Rows.idChildsSpec.pre6 enc Try.prog Try.f3 Rows.idChildsRow.domain false) (Rows.idChildsSpec.post enc Try.prog Try.f3 false true false false) := by
  refine returnsInHanded_of_change_sized (C := Try.checked) own started (by kernel_rfl) Try.func3
    (ChangeSpec.witness6 (enc := enc) (C := Try.checked) false ⟨#[], #[.string ByteArray.empty, .string ByteArray.empty, .agg #[.int .i64 0, .int .i64 0]], []⟩ 8 (by kernel_rfl) (by kernel_rfl) (by kernel_rfl) (by kernel_rfl)) ?_
  intro W base args ds gs before hval0 hW hcnd hsz0 _
  have hsz : (DataW.weightsEach Try.prog (Try.f3.params.toList ++ Rows.idChildsSpec.plain.varTypes Try.prog) (ds ++ gs)).all (· ≤ reachBytes) = true := hsz0
  have hval : ∀ (j : Nat) t v, Try.f3.params[j]? = some t → args[j]? = some v → Value.okWide Try.prog W .any base t v := hval0
  have hW' := hW
  obtain ⟨p, q, hA0, hV, rfl, hfz, hnd⟩ := hW
  have hA : DataW.TrodAll enc Try.prog W 0 (fun _ => true) true Try.f3.params.toList args.toList ds p := hA0
  rw [Try.params3] at hA hval hsz
  obtain ⟨v0, vs0, d0, ds0, p0, q0, hargs, rfl, rfl, h0, r0⟩ := trodAll_cons hA
  obtain ⟨v1, vs1, d1, ds1, p1, q1, rfl, rfl, rfl, h1, r1⟩ := trodAll_cons r0
  obtain ⟨v2, vs2, d2, ds2, p2, q2, rfl, rfl, rfl, h2, r2⟩ := trodAll_cons r1
  obtain ⟨rfl, rfl, rfl⟩ := trodAll_nil r2
  obtain rfl : args = #[v0, v1, v2] := by cases args; simp_all
  obtain ⟨rfl, rfl⟩ := trodVars_none hV
  obtain ⟨a0, rfl, rfl, rfl, y0⟩ := open_string Try.underlying9 (hval 0 9 v0 rfl rfl) h0
  have w0 : a0.size ≤ 140737488351232 := by
    have z := sized_string hsz (j := 0) (t := 9) rfl rfl
    rw [Array.length_toList] at z
    exact z
  obtain ⟨a1, rfl, rfl, rfl, y1⟩ := open_string Try.underlying9 (hval 1 9 v1 rfl rfl) h1
  have w1 : a1.size ≤ 140737488351232 := by
    have z := sized_string hsz (j := 1) (t := 9) rfl rfl
    rw [Array.length_toList] at z
    exact z
  obtain ⟨cs2, rfl, _⟩ := okWide_array2 Try.underlying22 (hval 2 22 v2 rfl rfl)
  have k2 := h2
  have lt2 : ∀ x ∈ p2, x.block < W.heap.size := by obtain ⟨m, hm⟩ := k2; exact DataW.trod_lt m _ _ _ hm
  obtain ⟨fu2, hf2⟩ := h2
  obtain ⟨y2, hk2, ho2⟩ := op22 hf2
  have he2 := k22_open hk2
  obtain rfl : cs2 = #[.int .i64 y2.f0, .int .i64 y2.f1] := Array.ext' he2
  clear hA0 hval0 hsz0 hsz
  obtain ⟨k, hP⟩ := Pure.IdChilds a0 a1 y2 w0 w1 ho2
  refine (P.cenotaphlaw01_IdChilds.calls k a0 a1 y2.f0 y2.f1 true W  hP).mono fun e W' ⟨he, bel0⟩ => ?_
  have bel := bel0
  subst he
  exact ⟨_, rfl, _, _, _, [], _, [], hW', trodAll_mk1 (shut_bool Try.underlying4 _), (trodAll_cons_mk (shut_string Try.underlying9 y0) (trodAll_cons_mk (shut_string Try.underlying9 y1) (trodAll_cons_mk (Below.trod laidOut (by kernel_rfl) (of_decide_eq_true (by kernel_rfl)) k2 bel lt2) trodAll_mk0))), rfl, bel.frame _, fun h => by cases h⟩
theorem over : Rows.idChildsRow.holds Try.pinned (OpenSpec.ofChange Rows.idChildsSpec) :=
  OpenClaim.holds_of_wide 3 Try.f3 rfl rfl rfl rfl rfl rfl rfl ⟨rfl, rfl, rfl, rfl, rfl⟩ rfl rfl rfl rfl rfl (by kernel_rfl) Try.func3 (by kernel_rfl)
    (of_decide_eq_true (by kernel_rfl)) (by unfold Func.isWrapper; first | (rw [if_pos (by decide +kernel)]; kernel_rfl) | (rw [if_neg (by decide +kernel)]; exact ⟨rfl, rfl⟩))
    (fun os started H enc _ => lifted os started H enc)
theorem proved : Rows.IdChildsSaid := over
#print axioms proved
end Go.Proofs.Ytbdoablehdpdoaa.idChilds
namespace Go.Proofs.Ytbdoablehdpdoaa
/-- The row, under a short name, for the claim. -/
theorem idChilds_holds : Rows.IdChildsSaid := idChilds.proved
end Go.Proofs.Ytbdoablehdpdoaa
