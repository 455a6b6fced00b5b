/- StoreOrders: items that come in two orders leave the same: the newest of each key, Held, if one of its version was. No condition beyond the statement's own. -/
-- Written by a program of this session (wip/pp.py over the kit's printer, with our own texts put in).
import Derived.Test.YtgdkgobplinelaaRows
import Derived.Test.YtgdkgobplinelaaP18
import Derived.Test.YtgdkgobplinelaaAllStoreOrders
import Derived.Test.YtgdkgobplinelaaOpen
import Derived.WalkKit
import Derived.ProofKit
import Derived.OpenShut
import Derived.ShutString
import Derived.ChangeOld
import Derived.Below
import Derived.SizedLaws
namespace Go.Proofs.Ytgdkgobplinelaa.storeOrders
open Go.ChangeShapes Go.WideShapes Go.ChangeAt Go.RowKit Go.Proofs.Ytgdkgobplinelaa.P Go.Proofs.YtgdkgobplinelaaW.PrintWords
open Go.ChangeMaps (open_string shut_string)
set_option linter.unusedVariables false
theorem own : ownKnob Try.prog.godebug = none := by kernel_rfl
theorem laidOut : laidOutB Try.prog = true := by kernel_rfl
instance : Inhabited S24 := ⟨z24⟩
theorem op24 : Opens Try.prog 24 k24 (fun y => (fun x => x.size ≤ maxLen) y.f0 ∧ ((fun x => (Lit.int .i64 x).wf = true) y.f1 ∧ (fun x => (Lit.int .i64 x).wf = true) y.f2)) := opens_struct (fun y : S24 => (y.f0, y.f1, y.f2)) (fun p => (⟨p.1, p.2.1, p.2.2⟩ : S24)) (fun _ => rfl) Try.underlying24 (by kernel_rfl) (opensAt_cons (by kernel_rfl) (by kernel_rfl) (opens_string Try.underlying9) (opensAt_cons (by kernel_rfl) (by kernel_rfl) (opens_int Try.underlying3) (opensAt_one (by kernel_rfl) (opens_int Try.underlying3))))
instance : Inhabited S26 := ⟨z26⟩
theorem op26 : Opens Try.prog 26 k26 (fun y => (fun x => (Lit.int .i64 x).wf = true) y.f0 ∧ (fun x => (Lit.int .i64 x).wf = true) y.f1) := opens_struct (fun y : S26 => (y.f0, y.f1)) (fun p => (⟨p.1, p.2⟩ : S26)) (fun _ => rfl) Try.underlying26 (by kernel_rfl) (opensAt_cons (by kernel_rfl) (by kernel_rfl) (opens_int Try.underlying3) (opensAt_one (by kernel_rfl) (opens_int Try.underlying3)))
instance : Inhabited S28 := ⟨z28⟩
theorem op28 : Opens Try.prog 28 k28 (fun y => (fun x => (Lit.int .i64 x).wf = true) y.f0 ∧ ((fun y => (fun x => x.size ≤ maxLen) y.f0 ∧ ((fun x => (Lit.int .i64 x).wf = true) y.f1 ∧ (fun x => (Lit.int .i64 x).wf = true) y.f2)) y.f1 ∧ ((fun _ => True) y.f2 ∧ ((fun y => (fun x => (Lit.int .i64 x).wf = true) y.f0 ∧ (fun x => (Lit.int .i64 x).wf = true) y.f1) y.f3 ∧ ((fun x => x.size ≤ maxLen) y.f4 ∧ (fun _ => True) y.f5))))) := opens_struct (fun y : S28 => (y.f0, y.f1, y.f2, y.f3, y.f4, y.f5)) (fun p => (⟨p.1, p.2.1, p.2.2.1, p.2.2.2.1, p.2.2.2.2.1, p.2.2.2.2.2⟩ : S28)) (fun _ => rfl) Try.underlying28 (by kernel_rfl) (opensAt_cons (by kernel_rfl) (by kernel_rfl) (opens_int Try.underlying3) (opensAt_cons (by kernel_rfl) (by kernel_rfl) op24 (opensAt_cons (by kernel_rfl) (by kernel_rfl) (opens_bool Try.underlying4) (opensAt_cons (by kernel_rfl) (by kernel_rfl) op26 (opensAt_cons (by kernel_rfl) (by kernel_rfl) (opens_string Try.underlying9) (opensAt_one (by kernel_rfl) (opens_bool Try.underlying4)))))))
set_option maxRecDepth 100000 in
theorem lifted (os : Os) (started : os.Started) (H : Type) (enc : TypeId × Value → H) :
    ReturnsInHanded {} Try.checked os 4 .any (Rows.storeOrdersSpec.pre6 enc Try.prog Try.f4 Rows.storeOrdersRow.domain false) (Rows.storeOrdersSpec.post enc Try.prog Try.f4 false true false false) := by
  refine returnsInHanded_of_change_sized (C := Try.checked) own started (by kernel_rfl) Try.func4
    (ChangeSpec.witness6 (enc := enc) (C := Try.checked) false ⟨#[], #[.slice none 0 0, .slice none 0 0], []⟩ 8 (by kernel_rfl) (by kernel_rfl) (by kernel_rfl) (by kernel_rfl)) ?_
  intro W base args ds gs before hval0 hW hcnd hsz0 _
  have hsz : (DataW.weightsEach Try.prog (Try.f4.params.toList ++ Rows.storeOrdersSpec.plain.varTypes Try.prog) (ds ++ gs)).all (· ≤ reachBytes) = true := hsz0
  have hval : ∀ (j : Nat) t v, Try.f4.params[j]? = some t → args[j]? = some v → Value.okWide Try.prog W .any base t v := hval0
  have hW' := hW
  obtain ⟨p, q, hA0, hV, rfl, hfz, hnd⟩ := hW
  have hA : DataW.TrodAll enc Try.prog W 0 (fun _ => true) true Try.f4.params.toList args.toList ds p := hA0
  rw [Try.params4] at hA hval hsz
  obtain ⟨v0, vs0, d0, ds0, p0, q0, hargs, rfl, rfl, h0, r0⟩ := trodAll_cons hA
  obtain ⟨v1, vs1, d1, ds1, p1, q1, rfl, rfl, rfl, h1, r1⟩ := trodAll_cons r0
  obtain ⟨rfl, rfl, rfl⟩ := trodAll_nil r1
  obtain rfl : args = #[v0, v1] := by cases args; simp_all
  obtain ⟨rfl, rfl⟩ := trodVars_none hV
  obtain ⟨a0, len0, cap0, rfl⟩ := okWide_slice Try.underlying22 (hval 0 22 v0 rfl rfl)
  have k0 := h0
  have lt0 : ∀ x ∈ p0, x.block < W.heap.size := by obtain ⟨m, hm⟩ := k0; exact DataW.trod_lt m _ _ _ hm
  obtain ⟨fu0, hf0⟩ := h0
  obtain ⟨l0, ⟨A0, c0, he0, hc0, hr0⟩, ho0, hp0⟩ := (opens_slice Try.underlying22 (by kernel_rfl) op28) hf0
  obtain ⟨rfl, rfl, rfl⟩ : a0 = A0 ∧ len0 = l0.length ∧ cap0 = c0 := by simpa [Value.cells] using he0
  obtain ⟨a1, len1, cap1, rfl⟩ := okWide_slice Try.underlying57 (hval 1 57 v1 rfl rfl)
  have k1 := h1
  have lt1 : ∀ x ∈ p1, x.block < W.heap.size := by obtain ⟨m, hm⟩ := k1; exact DataW.trod_lt m _ _ _ hm
  obtain ⟨fu1, hf1⟩ := h1
  obtain ⟨l1, ⟨A1, c1, he1, hc1, hr1⟩, ho1, hp1⟩ := (opens_slice Try.underlying57 (by kernel_rfl) (opens_int Try.underlying3)) hf1
  obtain ⟨rfl, rfl, rfl⟩ : a1 = A1 ∧ len1 = l1.length ∧ cap1 = c1 := by simpa [Value.cells] using he1
  clear hA0 hval0 hsz0 hsz
  obtain ⟨k, hP⟩ := Pure.StoreOrders l0 l1 ho0 hp0 ho1 hp1
  refine (P.cenotaphlaw08_StoreOrders.calls k _ _ l0 _ _ l1 true W hr0 hc0 hr1 hc1 hP).mono fun e W' ⟨he, bel0⟩ => ?_
  have bel := bel0
  subst he
  exact ⟨_, rfl, _, _, _, [], _, [], hW', trodAll_mk1 (shut_bool Try.underlying4 _), (trodAll_cons_mk (Below.trod laidOut (by kernel_rfl) (of_decide_eq_true (by kernel_rfl)) k0 bel lt0) (trodAll_cons_mk (Below.trod laidOut (by kernel_rfl) (of_decide_eq_true (by kernel_rfl)) k1 bel lt1) trodAll_mk0)), rfl, bel.frame _, fun h => by cases h⟩
theorem over : Rows.storeOrdersRow.holds Try.pinned (OpenSpec.ofChange Rows.storeOrdersSpec) :=
  OpenClaim.holds_of_wide 4 Try.f4 rfl rfl rfl rfl rfl rfl rfl ⟨rfl, rfl, rfl, rfl, rfl⟩ rfl rfl rfl rfl rfl (by kernel_rfl) Try.func4 (by kernel_rfl)
    (of_decide_eq_true (by kernel_rfl)) (by unfold Func.isWrapper; first | (rw [if_pos (by decide +kernel)]; kernel_rfl) | (rw [if_neg (by decide +kernel)]; exact ⟨rfl, rfl⟩))
    (fun os started H enc _ => lifted os started H enc)
theorem proved : Rows.StoreOrdersSaid := over
#print axioms proved
end Go.Proofs.Ytgdkgobplinelaa.storeOrders
namespace Go.Proofs.Ytgdkgobplinelaa
/-- The row, under a short name, for the claim. -/
theorem storeOrders_holds : Rows.StoreOrdersSaid := storeOrders.proved
end Go.Proofs.Ytgdkgobplinelaa
