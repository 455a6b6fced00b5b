/- ItemNewer: of all versions it is told whether one wins; of two that differ in stamp or name just one does, and of three it goes through. No condition beyond the statement's own. -/
-- Written by a program of this session (wip/pp.py over the kit's printer, with our own texts put in).
import Derived.Test.YtkmhanpamdgnjaaRows
import Derived.Test.YtkmhanpamdgnjaaP6
import Derived.Test.YtkmhanpamdgnjaaPureItemNewer
import Derived.Test.YtkmhanpamdgnjaaOpen
import Derived.WalkKit
import Derived.ProofKit
import Derived.OpenShut
import Derived.ShutString
import Derived.ChangeOld
import Derived.Below
import Derived.SizedLaws
namespace Go.Proofs.Ytkmhanpamdgnjaa.itemNewer
open Go.ChangeShapes Go.WideShapes Go.ChangeAt Go.RowKit Go.Proofs.Ytkmhanpamdgnjaa.P Go.Proofs.YtkmhanpamdgnjaaW.PrintWords
open Go.ChangeMaps (open_string shut_string)
set_option linter.unusedVariables false
theorem own : ownKnob Try.prog.godebug = none := by kernel_rfl
theorem laidOut : laidOutB Try.prog = true := by kernel_rfl
instance : Inhabited S23 := ⟨z23⟩
theorem op23 : Opens Try.prog 23 k23 (fun y => (fun x => x.size ≤ maxLen) y.f0 ∧ ((fun x => (Lit.int .i64 x).wf = true) y.f1 ∧ (fun x => (Lit.int .i64 x).wf = true) y.f2)) := opens_struct (fun y : S23 => (y.f0, y.f1, y.f2)) (fun p => (⟨p.1, p.2.1, p.2.2⟩ : S23)) (fun _ => rfl) Try.underlying23 (by kernel_rfl) (opensAt_cons (by kernel_rfl) (by kernel_rfl) (opens_string Try.underlying9) (opensAt_cons (by kernel_rfl) (by kernel_rfl) (opens_int Try.underlying3) (opensAt_one (by kernel_rfl) (opens_int Try.underlying3))))
set_option maxRecDepth 100000 in
theorem lifted (os : Os) (started : os.Started) (H : Type) (enc : TypeId × Value → H) :
    ReturnsInHanded {} Try.checked os 3 .any (Rows.itemNewerSpec.pre6 enc Try.prog Try.f3 Rows.itemNewerRow.domain false) (Rows.itemNewerSpec.post enc Try.prog Try.f3 false true false false) := by
  refine returnsInHanded_of_change_sized (C := Try.checked) own started (by kernel_rfl) Try.func3
    (ChangeSpec.witness6 (enc := enc) (C := Try.checked) false ⟨#[], #[.agg #[.string ByteArray.empty, .int .i64 0, .int .i64 0], .agg #[.string ByteArray.empty, .int .i64 0, .int .i64 0], .agg #[.string ByteArray.empty, .int .i64 0, .int .i64 0]], []⟩ 8 (by kernel_rfl) (by kernel_rfl) (by kernel_rfl) (by kernel_rfl)) ?_
  intro W base args ds gs before hval0 hW hcnd hsz0 _
  have hsz : (DataW.weightsEach Try.prog (Try.f3.params.toList ++ Rows.itemNewerSpec.plain.varTypes Try.prog) (ds ++ gs)).all (· ≤ reachBytes) = true := hsz0
  have hval : ∀ (j : Nat) t v, Try.f3.params[j]? = some t → args[j]? = some v → Value.okWide Try.prog W .any base t v := hval0
  have hW' := hW
  obtain ⟨p, q, hA0, hV, rfl, hfz, hnd⟩ := hW
  have hA : DataW.TrodAll enc Try.prog W 0 (fun _ => true) true Try.f3.params.toList args.toList ds p := hA0
  rw [Try.params3] at hA hval hsz
  obtain ⟨v0, vs0, d0, ds0, p0, q0, hargs, rfl, rfl, h0, r0⟩ := trodAll_cons hA
  obtain ⟨v1, vs1, d1, ds1, p1, q1, rfl, rfl, rfl, h1, r1⟩ := trodAll_cons r0
  obtain ⟨v2, vs2, d2, ds2, p2, q2, rfl, rfl, rfl, h2, r2⟩ := trodAll_cons r1
  obtain ⟨rfl, rfl, rfl⟩ := trodAll_nil r2
  obtain rfl : args = #[v0, v1, v2] := by cases args; simp_all
  obtain ⟨rfl, rfl⟩ := trodVars_none hV
  obtain ⟨cs0, rfl, _⟩ := okWide_struct Try.underlying23 (hval 0 23 v0 rfl rfl)
  have k0 := h0
  have lt0 : ∀ x ∈ p0, x.block < W.heap.size := by obtain ⟨m, hm⟩ := k0; exact DataW.trod_lt m _ _ _ hm
  obtain ⟨fu0, hf0⟩ := h0
  obtain ⟨y0, hk0, ho0⟩ := op23 hf0
  have he0 := k23_open hk0
  obtain rfl : cs0 = #[.string y0.f0, .int .i64 y0.f1, .int .i64 y0.f2] := Array.ext' he0
  obtain ⟨cs1, rfl, _⟩ := okWide_struct Try.underlying23 (hval 1 23 v1 rfl rfl)
  have k1 := h1
  have lt1 : ∀ x ∈ p1, x.block < W.heap.size := by obtain ⟨m, hm⟩ := k1; exact DataW.trod_lt m _ _ _ hm
  obtain ⟨fu1, hf1⟩ := h1
  obtain ⟨y1, hk1, ho1⟩ := op23 hf1
  have he1 := k23_open hk1
  obtain rfl : cs1 = #[.string y1.f0, .int .i64 y1.f1, .int .i64 y1.f2] := Array.ext' he1
  obtain ⟨cs2, rfl, _⟩ := okWide_struct Try.underlying23 (hval 2 23 v2 rfl rfl)
  have k2 := h2
  have lt2 : ∀ x ∈ p2, x.block < W.heap.size := by obtain ⟨m, hm⟩ := k2; exact DataW.trod_lt m _ _ _ hm
  obtain ⟨fu2, hf2⟩ := h2
  obtain ⟨y2, hk2, ho2⟩ := op23 hf2
  have he2 := k23_open hk2
  obtain rfl : cs2 = #[.string y2.f0, .int .i64 y2.f1, .int .i64 y2.f2] := Array.ext' he2
  clear hA0 hval0 hsz0 hsz
  obtain ⟨k, hP⟩ := Pure.ItemNewer y0 y1 y2 ho0 ho1 ho2
  refine (P.cenotaphlaw07_ItemNewer.calls k y0.f0 y0.f1 y0.f2 y1.f0 y1.f1 y1.f2 y2.f0 y2.f1 y2.f2 true W  hP).mono fun e W' ⟨he, bel0⟩ => ?_
  have bel := bel0
  subst he
  exact ⟨_, rfl, _, _, _, [], _, [], hW', trodAll_mk1 (shut_bool Try.underlying4 _), (trodAll_cons_mk (Below.trod laidOut (by kernel_rfl) (of_decide_eq_true (by kernel_rfl)) k0 bel lt0) (trodAll_cons_mk (Below.trod laidOut (by kernel_rfl) (of_decide_eq_true (by kernel_rfl)) k1 bel lt1) (trodAll_cons_mk (Below.trod laidOut (by kernel_rfl) (of_decide_eq_true (by kernel_rfl)) k2 bel lt2) trodAll_mk0))), rfl, bel.frame _, fun h => by cases h⟩
theorem over : Rows.itemNewerRow.holds Try.pinned (OpenSpec.ofChange Rows.itemNewerSpec) :=
  OpenClaim.holds_of_wide 3 Try.f3 rfl rfl rfl rfl rfl rfl rfl ⟨rfl, rfl, rfl, rfl, rfl⟩ rfl rfl rfl rfl rfl (by kernel_rfl) Try.func3 (by kernel_rfl)
    (of_decide_eq_true (by kernel_rfl)) (by unfold Func.isWrapper; first | (rw [if_pos (by decide +kernel)]; kernel_rfl) | (rw [if_neg (by decide +kernel)]; exact ⟨rfl, rfl⟩))
    (fun os started H enc _ => lifted os started H enc)
theorem proved : Rows.ItemNewerSaid := over
#print axioms proved
end Go.Proofs.Ytkmhanpamdgnjaa.itemNewer
namespace Go.Proofs.Ytkmhanpamdgnjaa
/-- The row, under a short name, for the claim. -/
theorem itemNewer_holds : Rows.ItemNewerSaid := itemNewer.proved
end Go.Proofs.Ytkmhanpamdgnjaa
