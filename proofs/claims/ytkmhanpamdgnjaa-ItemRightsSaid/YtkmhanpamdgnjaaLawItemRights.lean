/- ItemRights: of all items it is told whether they may be, what they are without their text, and their bytes. No condition beyond the statement's own. -/
-- Written by a program of this session (wip/pp.py over the kit's printer, with our own texts put in).
import Derived.Test.YtkmhanpamdgnjaaRows
import Derived.Test.YtkmhanpamdgnjaaP10
import Derived.Test.YtkmhanpamdgnjaaPureItemRights
import Derived.Test.YtkmhanpamdgnjaaOpen
import Derived.WalkKit
import Derived.ProofKit
import Derived.OpenShut
import Derived.ShutString
import Derived.ChangeOld
import Derived.Below
import Derived.SizedLaws
namespace Go.Proofs.Ytkmhanpamdgnjaa.itemRights
open Go.ChangeShapes Go.WideShapes Go.ChangeAt Go.RowKit Go.Proofs.Ytkmhanpamdgnjaa.P Go.Proofs.YtkmhanpamdgnjaaW.PrintWords
open Go.ChangeMaps (open_string shut_string)
set_option linter.unusedVariables false
theorem own : ownKnob Try.prog.godebug = none := by kernel_rfl
theorem laidOut : laidOutB Try.prog = true := by kernel_rfl
instance : Inhabited S23 := ⟨z23⟩
theorem op23 : Opens Try.prog 23 k23 (fun y => (fun x => x.size ≤ maxLen) y.f0 ∧ ((fun x => (Lit.int .i64 x).wf = true) y.f1 ∧ (fun x => (Lit.int .i64 x).wf = true) y.f2)) := opens_struct (fun y : S23 => (y.f0, y.f1, y.f2)) (fun p => (⟨p.1, p.2.1, p.2.2⟩ : S23)) (fun _ => rfl) Try.underlying23 (by kernel_rfl) (opensAt_cons (by kernel_rfl) (by kernel_rfl) (opens_string Try.underlying9) (opensAt_cons (by kernel_rfl) (by kernel_rfl) (opens_int Try.underlying3) (opensAt_one (by kernel_rfl) (opens_int Try.underlying3))))
instance : Inhabited S44 := ⟨z44⟩
theorem op44 : Opens Try.prog 44 k44 (fun y => (fun x => (Lit.int .i64 x).wf = true) y.f0 ∧ (fun x => (Lit.int .i64 x).wf = true) y.f1) := opens_struct (fun y : S44 => (y.f0, y.f1)) (fun p => (⟨p.1, p.2⟩ : S44)) (fun _ => rfl) Try.underlying44 (by kernel_rfl) (opensAt_cons (by kernel_rfl) (by kernel_rfl) (opens_int Try.underlying3) (opensAt_one (by kernel_rfl) (opens_int Try.underlying3)))
instance : Inhabited S46 := ⟨z46⟩
theorem op46 : Opens Try.prog 46 k46 (fun y => (fun x => (Lit.int .i64 x).wf = true) y.f0 ∧ ((fun y => (fun x => x.size ≤ maxLen) y.f0 ∧ ((fun x => (Lit.int .i64 x).wf = true) y.f1 ∧ (fun x => (Lit.int .i64 x).wf = true) y.f2)) y.f1 ∧ ((fun _ => True) y.f2 ∧ ((fun y => (fun x => (Lit.int .i64 x).wf = true) y.f0 ∧ (fun x => (Lit.int .i64 x).wf = true) y.f1) y.f3 ∧ ((fun x => x.size ≤ maxLen) y.f4 ∧ (fun _ => True) y.f5))))) := opens_struct (fun y : S46 => (y.f0, y.f1, y.f2, y.f3, y.f4, y.f5)) (fun p => (⟨p.1, p.2.1, p.2.2.1, p.2.2.2.1, p.2.2.2.2.1, p.2.2.2.2.2⟩ : S46)) (fun _ => rfl) Try.underlying46 (by kernel_rfl) (opensAt_cons (by kernel_rfl) (by kernel_rfl) (opens_int Try.underlying3) (opensAt_cons (by kernel_rfl) (by kernel_rfl) op23 (opensAt_cons (by kernel_rfl) (by kernel_rfl) (opens_bool Try.underlying4) (opensAt_cons (by kernel_rfl) (by kernel_rfl) op44 (opensAt_cons (by kernel_rfl) (by kernel_rfl) (opens_string Try.underlying9) (opensAt_one (by kernel_rfl) (opens_bool Try.underlying4)))))))
set_option maxRecDepth 100000 in
theorem lifted (os : Os) (started : os.Started) (H : Type) (enc : TypeId × Value → H) :
    ReturnsInHanded {} Try.checked os 6 .any (Rows.itemRightsSpec.pre6 enc Try.prog Try.f6 Rows.itemRightsRow.domain false) (Rows.itemRightsSpec.post enc Try.prog Try.f6 false true false false) := by
  refine returnsInHanded_of_change_sized (C := Try.checked) own started (by kernel_rfl) Try.func6
    (ChangeSpec.witness6 (enc := enc) (C := Try.checked) false ⟨#[], #[.agg #[.int .i64 0, .string ByteArray.empty, .int .i64 0, .int .i64 0, .bool false, .int .i64 0, .int .i64 0, .string ByteArray.empty, .bool false]], []⟩ 8 (by kernel_rfl) (by kernel_rfl) (by kernel_rfl) (by kernel_rfl)) ?_
  intro W base args ds gs before hval0 hW hcnd hsz0 _
  have hsz : (DataW.weightsEach Try.prog (Try.f6.params.toList ++ Rows.itemRightsSpec.plain.varTypes Try.prog) (ds ++ gs)).all (· ≤ reachBytes) = true := hsz0
  have hval : ∀ (j : Nat) t v, Try.f6.params[j]? = some t → args[j]? = some v → Value.okWide Try.prog W .any base t v := hval0
  have hW' := hW
  obtain ⟨p, q, hA0, hV, rfl, hfz, hnd⟩ := hW
  have hA : DataW.TrodAll enc Try.prog W 0 (fun _ => true) true Try.f6.params.toList args.toList ds p := hA0
  rw [Try.params6] at hA hval hsz
  obtain ⟨v0, vs0, d0, ds0, p0, q0, hargs, rfl, rfl, h0, r0⟩ := trodAll_cons hA
  obtain ⟨rfl, rfl, rfl⟩ := trodAll_nil r0
  obtain rfl : args = #[v0] := by cases args; simp_all
  obtain ⟨rfl, rfl⟩ := trodVars_none hV
  obtain ⟨cs0, rfl, _⟩ := okWide_struct Try.underlying46 (hval 0 46 v0 rfl rfl)
  have k0 := h0
  have lt0 : ∀ x ∈ p0, x.block < W.heap.size := by obtain ⟨m, hm⟩ := k0; exact DataW.trod_lt m _ _ _ hm
  obtain ⟨fu0, hf0⟩ := h0
  obtain ⟨y0, hk0, ho0⟩ := op46 hf0
  have he0 := k46_open hk0
  obtain rfl : cs0 = #[.int .i64 y0.f0, .string y0.f1.f0, .int .i64 y0.f1.f1, .int .i64 y0.f1.f2, .bool y0.f2, .int .i64 y0.f3.f0, .int .i64 y0.f3.f1, .string y0.f4, .bool y0.f5] := Array.ext' he0
  clear hA0 hval0 hsz0 hsz
  obtain ⟨k, hP⟩ := Pure.ItemRights y0 ho0
  refine (P.cenotaphlaw07_ItemRights.calls k y0.f0 y0.f1.f0 y0.f1.f1 y0.f1.f2 y0.f2 y0.f3.f0 y0.f3.f1 y0.f4 y0.f5 true W  hP).mono fun e W' ⟨he, bel0⟩ => ?_
  have bel := bel0
  subst he
  exact ⟨_, rfl, _, _, _, [], _, [], hW', trodAll_mk1 (shut_bool Try.underlying4 _), (trodAll_cons_mk (Below.trod laidOut (by kernel_rfl) (of_decide_eq_true (by kernel_rfl)) k0 bel lt0) trodAll_mk0), rfl, bel.frame _, fun h => by cases h⟩
theorem over : Rows.itemRightsRow.holds Try.pinned (OpenSpec.ofChange Rows.itemRightsSpec) :=
  OpenClaim.holds_of_wide 6 Try.f6 rfl rfl rfl rfl rfl rfl rfl ⟨rfl, rfl, rfl, rfl, rfl⟩ rfl rfl rfl rfl rfl (by kernel_rfl) Try.func6 (by kernel_rfl)
    (of_decide_eq_true (by kernel_rfl)) (by unfold Func.isWrapper; first | (rw [if_pos (by decide +kernel)]; kernel_rfl) | (rw [if_neg (by decide +kernel)]; exact ⟨rfl, rfl⟩))
    (fun os started H enc _ => lifted os started H enc)
theorem proved : Rows.ItemRightsSaid := over
#print axioms proved
end Go.Proofs.Ytkmhanpamdgnjaa.itemRights
namespace Go.Proofs.Ytkmhanpamdgnjaa
/-- The row, under a short name, for the claim. -/
theorem itemRights_holds : Rows.ItemRightsSaid := itemRights.proved
end Go.Proofs.Ytkmhanpamdgnjaa
