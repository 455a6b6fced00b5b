/- SpanGroups: of three Spans it doesn't count which two go together first; what is in two is in the third with them. No condition beyond the statement's own. -/
-- Written by a program of this session (wip/pp.py over the kit's printer, with our own texts put in).
import Derived.Test.YtejoofeigeoboaaRows
import Derived.Test.YtejoofeigeoboaaP12
import Derived.Test.YtejoofeigeoboaaPureSpanGroups
import Derived.Test.YtejoofeigeoboaaOpen
import Derived.WalkKit
import Derived.ProofKit
import Derived.OpenShut
import Derived.ShutString
import Derived.ChangeOld
import Derived.Below
import Derived.SizedLaws
namespace Go.Proofs.Ytejoofeigeoboaa.spanGroups
open Go.ChangeShapes Go.WideShapes Go.ChangeAt Go.RowKit Go.Proofs.Ytejoofeigeoboaa.P Go.Proofs.YtejoofeigeoboaaW.PrintWords
open Go.ChangeMaps (open_string shut_string)
set_option linter.unusedVariables false
theorem own : ownKnob Try.prog.godebug = none := by kernel_rfl
theorem laidOut : laidOutB Try.prog = true := by kernel_rfl
instance : Inhabited S30 := ⟨z30⟩
theorem op30 : Opens Try.prog 30 k30 (fun y => (fun x => (Lit.int .i64 x).wf = true) y.f0 ∧ (fun l => l.length ≤ maxLen ∧ ∀ x ∈ l, (fun x => (Lit.int .i64 x).wf = true) x) y.f1) := opens_struct (fun y : S30 => (y.f0, y.f1)) (fun p => (⟨p.1, p.2⟩ : S30)) (fun _ => rfl) Try.underlying30 (by kernel_rfl) (opensAt_cons (by kernel_rfl) (by kernel_rfl) (opens_int Try.underlying3) (opensAt_one (by kernel_rfl) (opens_slice Try.underlying22 (by kernel_rfl) (opens_int Try.underlying3))))
set_option maxRecDepth 100000 in
theorem lifted (os : Os) (started : os.Started) (H : Type) (enc : TypeId × Value → H) :
    ReturnsInHanded {} Try.checked os 6 .any (Rows.spanGroupsSpec.pre6 enc Try.prog Try.f6 Rows.spanGroupsRow.domain false) (Rows.spanGroupsSpec.post enc Try.prog Try.f6 false true false false) := by
  refine returnsInHanded_of_change_sized (C := Try.checked) own started (by kernel_rfl) Try.func6
    (ChangeSpec.witness6 (enc := enc) (C := Try.checked) false ⟨#[], #[.agg #[.int .i64 0, .slice none 0 0], .agg #[.int .i64 0, .slice none 0 0], .agg #[.int .i64 0, .slice none 0 0]], []⟩ 8 (by kernel_rfl) (by kernel_rfl) (by kernel_rfl) (by kernel_rfl)) ?_
  intro W base args ds gs before hval0 hW hcnd hsz0 _
  have hsz : (DataW.weightsEach Try.prog (Try.f6.params.toList ++ Rows.spanGroupsSpec.plain.varTypes Try.prog) (ds ++ gs)).all (· ≤ reachBytes) = true := hsz0
  have hval : ∀ (j : Nat) t v, Try.f6.params[j]? = some t → args[j]? = some v → Value.okWide Try.prog W .any base t v := hval0
  have hW' := hW
  obtain ⟨p, q, hA0, hV, rfl, hfz, hnd⟩ := hW
  have hA : DataW.TrodAll enc Try.prog W 0 (fun _ => true) true Try.f6.params.toList args.toList ds p := hA0
  rw [Try.params6] at hA hval hsz
  obtain ⟨v0, vs0, d0, ds0, p0, q0, hargs, rfl, rfl, h0, r0⟩ := trodAll_cons hA
  obtain ⟨v1, vs1, d1, ds1, p1, q1, rfl, rfl, rfl, h1, r1⟩ := trodAll_cons r0
  obtain ⟨v2, vs2, d2, ds2, p2, q2, rfl, rfl, rfl, h2, r2⟩ := trodAll_cons r1
  obtain ⟨rfl, rfl, rfl⟩ := trodAll_nil r2
  obtain rfl : args = #[v0, v1, v2] := by cases args; simp_all
  obtain ⟨rfl, rfl⟩ := trodVars_none hV
  obtain ⟨cs0, rfl, _⟩ := okWide_struct Try.underlying30 (hval 0 30 v0 rfl rfl)
  have k0 := h0
  have lt0 : ∀ x ∈ p0, x.block < W.heap.size := by obtain ⟨m, hm⟩ := k0; exact DataW.trod_lt m _ _ _ hm
  obtain ⟨fu0, hf0⟩ := h0
  obtain ⟨y0, hk0, ho0⟩ := op30 hf0
  obtain ⟨A0_1, c0_1, he0, l0_1, g0_1⟩ := k30_open hk0
  obtain rfl : cs0 = #[.int .i64 y0.f0, .slice A0_1 y0.f1.length c0_1] := Array.ext' he0
  obtain ⟨cs1, rfl, _⟩ := okWide_struct Try.underlying30 (hval 1 30 v1 rfl rfl)
  have k1 := h1
  have lt1 : ∀ x ∈ p1, x.block < W.heap.size := by obtain ⟨m, hm⟩ := k1; exact DataW.trod_lt m _ _ _ hm
  obtain ⟨fu1, hf1⟩ := h1
  obtain ⟨y1, hk1, ho1⟩ := op30 hf1
  obtain ⟨A1_1, c1_1, he1, l1_1, g1_1⟩ := k30_open hk1
  obtain rfl : cs1 = #[.int .i64 y1.f0, .slice A1_1 y1.f1.length c1_1] := Array.ext' he1
  obtain ⟨cs2, rfl, _⟩ := okWide_struct Try.underlying30 (hval 2 30 v2 rfl rfl)
  have k2 := h2
  have lt2 : ∀ x ∈ p2, x.block < W.heap.size := by obtain ⟨m, hm⟩ := k2; exact DataW.trod_lt m _ _ _ hm
  obtain ⟨fu2, hf2⟩ := h2
  obtain ⟨y2, hk2, ho2⟩ := op30 hf2
  obtain ⟨A2_1, c2_1, he2, l2_1, g2_1⟩ := k30_open hk2
  obtain rfl : cs2 = #[.int .i64 y2.f0, .slice A2_1 y2.f1.length c2_1] := Array.ext' he2
  clear hA0 hval0 hsz0 hsz
  obtain ⟨k, hP⟩ := Pure.SpanGroups y0 y1 y2 ho0 ho1 ho2
  refine (P.cenotaphlaw02_SpanGroups.calls k y0.f0 _ _ y0.f1 y1.f0 _ _ y1.f1 y2.f0 _ _ y2.f1 true W g0_1 l0_1 g1_1 l1_1 g2_1 l2_1 hP).mono fun e W' ⟨he, bel0⟩ => ?_
  have bel := bel0
  subst he
  exact ⟨_, rfl, _, _, _, [], _, [], hW', trodAll_mk1 (shut_bool Try.underlying4 _), (trodAll_cons_mk (Below.trod laidOut (by kernel_rfl) (of_decide_eq_true (by kernel_rfl)) k0 bel lt0) (trodAll_cons_mk (Below.trod laidOut (by kernel_rfl) (of_decide_eq_true (by kernel_rfl)) k1 bel lt1) (trodAll_cons_mk (Below.trod laidOut (by kernel_rfl) (of_decide_eq_true (by kernel_rfl)) k2 bel lt2) trodAll_mk0))), rfl, bel.frame _, fun h => by cases h⟩
theorem over : Rows.spanGroupsRow.holds Try.pinned (OpenSpec.ofChange Rows.spanGroupsSpec) :=
  OpenClaim.holds_of_wide 6 Try.f6 rfl rfl rfl rfl rfl rfl rfl ⟨rfl, rfl, rfl, rfl, rfl⟩ rfl rfl rfl rfl rfl (by kernel_rfl) Try.func6 (by kernel_rfl)
    (of_decide_eq_true (by kernel_rfl)) (by unfold Func.isWrapper; first | (rw [if_pos (by decide +kernel)]; kernel_rfl) | (rw [if_neg (by decide +kernel)]; exact ⟨rfl, rfl⟩))
    (fun os started H enc _ => lifted os started H enc)
theorem proved : Rows.SpanGroupsSaid := over
#print axioms proved
end Go.Proofs.Ytejoofeigeoboaa.spanGroups
namespace Go.Proofs.Ytejoofeigeoboaa
/-- The row, under a short name, for the claim. -/
theorem spanGroups_holds : Rows.SpanGroupsSaid := spanGroups.proved
end Go.Proofs.Ytejoofeigeoboaa
