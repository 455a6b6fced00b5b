/- KnowUnions: of all two Knows what either knows is told, whether one is in the other, and whether they are the same; the union is the least one that both are in. No condition beyond the statement's own. -/
-- Written by a program of this session (wip/pp.py over the kit's printer, with our own texts put in).
import Derived.Test.YtkfehkaiifjkmaaRows
import Derived.Test.YtkfehkaiifjkmaaP13
import Derived.Test.YtkfehkaiifjkmaaAllKnowUnions
import Derived.Test.YtkfehkaiifjkmaaOpen
import Derived.WalkKit
import Derived.ProofKit
import Derived.OpenShut
import Derived.ShutString
import Derived.ChangeOld
import Derived.Below
import Derived.SizedLaws
namespace Go.Proofs.Ytkfehkaiifjkmaa.knowUnions
open Go.ChangeShapes Go.WideShapes Go.ChangeAt Go.RowKit Go.Proofs.Ytkfehkaiifjkmaa.P Go.Proofs.YtkfehkaiifjkmaaW.PrintWords
open Go.ChangeMaps (open_string shut_string)
set_option linter.unusedVariables false
theorem own : ownKnob Try.prog.godebug = none := by kernel_rfl
theorem laidOut : laidOutB Try.prog = true := by kernel_rfl
instance : Inhabited S25 := ⟨z25⟩
theorem op25 : Opens Try.prog 25 k25 (fun y => (fun x => (Lit.int .i64 x).wf = true) y.f0 ∧ (fun l => l.length ≤ maxLen ∧ ∀ x ∈ l, (fun x => (Lit.int .i64 x).wf = true) x) y.f1) := opens_struct (fun y : S25 => (y.f0, y.f1)) (fun p => (⟨p.1, p.2⟩ : S25)) (fun _ => rfl) Try.underlying25 (by kernel_rfl) (opensAt_cons (by kernel_rfl) (by kernel_rfl) (opens_int Try.underlying3) (opensAt_one (by kernel_rfl) (opens_slice Try.underlying23 (by kernel_rfl) (opens_int Try.underlying3))))
instance : Inhabited S27 := ⟨z27⟩
theorem op27 : Opens Try.prog 27 k27 (fun y => (fun x => x.size ≤ maxLen) y.f0 ∧ (fun y => (fun x => (Lit.int .i64 x).wf = true) y.f0 ∧ (fun l => l.length ≤ maxLen ∧ ∀ x ∈ l, (fun x => (Lit.int .i64 x).wf = true) x) y.f1) y.f1) := opens_struct (fun y : S27 => (y.f0, y.f1)) (fun p => (⟨p.1, p.2⟩ : S27)) (fun _ => rfl) Try.underlying27 (by kernel_rfl) (opensAt_cons (by kernel_rfl) (by kernel_rfl) (opens_string Try.underlying9) (opensAt_one (by kernel_rfl) op25))
set_option maxRecDepth 100000 in
theorem lifted (os : Os) (started : os.Started) (H : Type) (enc : TypeId × Value → H) :
    ReturnsInHanded {} Try.checked os 5 .any (Rows.knowUnionsSpec.pre6 enc Try.prog Try.f5 Rows.knowUnionsRow.domain false) (Rows.knowUnionsSpec.post enc Try.prog Try.f5 false true false false) := by
  refine returnsInHanded_of_change_sized (C := Try.checked) own started (by kernel_rfl) Try.func5
    (ChangeSpec.witness6 (enc := enc) (C := Try.checked) false ⟨#[], #[.slice none 0 0, .slice none 0 0, .slice none 0 0], []⟩ 8 (by kernel_rfl) (by kernel_rfl) (by kernel_rfl) (by kernel_rfl)) ?_
  intro W base args ds gs before hval0 hW hcnd hsz0 _
  have hsz : (DataW.weightsEach Try.prog (Try.f5.params.toList ++ Rows.knowUnionsSpec.plain.varTypes Try.prog) (ds ++ gs)).all (· ≤ reachBytes) = true := hsz0
  have hval : ∀ (j : Nat) t v, Try.f5.params[j]? = some t → args[j]? = some v → Value.okWide Try.prog W .any base t v := hval0
  have hW' := hW
  obtain ⟨p, q, hA0, hV, rfl, hfz, hnd⟩ := hW
  have hA : DataW.TrodAll enc Try.prog W 0 (fun _ => true) true Try.f5.params.toList args.toList ds p := hA0
  rw [Try.params5] at hA hval hsz
  obtain ⟨v0, vs0, d0, ds0, p0, q0, hargs, rfl, rfl, h0, r0⟩ := trodAll_cons hA
  obtain ⟨v1, vs1, d1, ds1, p1, q1, rfl, rfl, rfl, h1, r1⟩ := trodAll_cons r0
  obtain ⟨v2, vs2, d2, ds2, p2, q2, rfl, rfl, rfl, h2, r2⟩ := trodAll_cons r1
  obtain ⟨rfl, rfl, rfl⟩ := trodAll_nil r2
  obtain rfl : args = #[v0, v1, v2] := by cases args; simp_all
  obtain ⟨rfl, rfl⟩ := trodVars_none hV
  obtain ⟨a0, len0, cap0, rfl⟩ := okWide_slice Try.underlying22 (hval 0 22 v0 rfl rfl)
  have k0 := h0
  have lt0 : ∀ x ∈ p0, x.block < W.heap.size := by obtain ⟨m, hm⟩ := k0; exact DataW.trod_lt m _ _ _ hm
  obtain ⟨fu0, hf0⟩ := h0
  obtain ⟨l0, ⟨A0, c0, he0, hc0, hr0⟩, ho0, hp0⟩ := (opens_slice Try.underlying22 (by kernel_rfl) op27) hf0
  obtain ⟨rfl, rfl, rfl⟩ : a0 = A0 ∧ len0 = l0.length ∧ cap0 = c0 := by simpa [Value.cells] using he0
  obtain ⟨a1, len1, cap1, rfl⟩ := okWide_slice Try.underlying22 (hval 1 22 v1 rfl rfl)
  have k1 := h1
  have lt1 : ∀ x ∈ p1, x.block < W.heap.size := by obtain ⟨m, hm⟩ := k1; exact DataW.trod_lt m _ _ _ hm
  obtain ⟨fu1, hf1⟩ := h1
  obtain ⟨l1, ⟨A1, c1, he1, hc1, hr1⟩, ho1, hp1⟩ := (opens_slice Try.underlying22 (by kernel_rfl) op27) hf1
  obtain ⟨rfl, rfl, rfl⟩ : a1 = A1 ∧ len1 = l1.length ∧ cap1 = c1 := by simpa [Value.cells] using he1
  obtain ⟨a2, len2, cap2, rfl⟩ := okWide_slice Try.underlying22 (hval 2 22 v2 rfl rfl)
  have k2 := h2
  have lt2 : ∀ x ∈ p2, x.block < W.heap.size := by obtain ⟨m, hm⟩ := k2; exact DataW.trod_lt m _ _ _ hm
  obtain ⟨fu2, hf2⟩ := h2
  obtain ⟨l2, ⟨A2, c2, he2, hc2, hr2⟩, ho2, hp2⟩ := (opens_slice Try.underlying22 (by kernel_rfl) op27) hf2
  obtain ⟨rfl, rfl, rfl⟩ : a2 = A2 ∧ len2 = l2.length ∧ cap2 = c2 := by simpa [Value.cells] using he2
  clear hA0 hval0 hsz0 hsz
  obtain ⟨k, hP⟩ := Pure.KnowUnions l0 l1 l2 ho0 hp0 ho1 hp1 ho2 hp2
  refine (P.cenotaphlaw04_KnowUnions.calls k _ _ l0 _ _ l1 _ _ l2 true W hr0 hc0 hr1 hc1 hr2 hc2 hP).mono fun e W' ⟨he, bel0⟩ => ?_
  have bel := bel0
  subst he
  exact ⟨_, rfl, _, _, _, [], _, [], hW', trodAll_mk1 (shut_bool Try.underlying4 _), (trodAll_cons_mk (Below.trod laidOut (by kernel_rfl) (of_decide_eq_true (by kernel_rfl)) k0 bel lt0) (trodAll_cons_mk (Below.trod laidOut (by kernel_rfl) (of_decide_eq_true (by kernel_rfl)) k1 bel lt1) (trodAll_cons_mk (Below.trod laidOut (by kernel_rfl) (of_decide_eq_true (by kernel_rfl)) k2 bel lt2) trodAll_mk0))), rfl, bel.frame _, fun h => by cases h⟩
theorem over : Rows.knowUnionsRow.holds Try.pinned (OpenSpec.ofChange Rows.knowUnionsSpec) :=
  OpenClaim.holds_of_wide 5 Try.f5 rfl rfl rfl rfl rfl rfl rfl ⟨rfl, rfl, rfl, rfl, rfl⟩ rfl rfl rfl rfl rfl (by kernel_rfl) Try.func5 (by kernel_rfl)
    (of_decide_eq_true (by kernel_rfl)) (by unfold Func.isWrapper; first | (rw [if_pos (by decide +kernel)]; kernel_rfl) | (rw [if_neg (by decide +kernel)]; exact ⟨rfl, rfl⟩))
    (fun os started H enc _ => lifted os started H enc)
theorem proved : Rows.KnowUnionsSaid := over
#print axioms proved
end Go.Proofs.Ytkfehkaiifjkmaa.knowUnions
namespace Go.Proofs.Ytkfehkaiifjkmaa
/-- The row, under a short name, for the claim. -/
theorem knowUnions_holds : Rows.KnowUnionsSaid := knowUnions.proved
end Go.Proofs.Ytkfehkaiifjkmaa
