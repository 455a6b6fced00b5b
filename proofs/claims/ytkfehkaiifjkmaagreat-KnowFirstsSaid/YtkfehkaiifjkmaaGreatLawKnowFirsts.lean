/- KnowFirsts: of all Knows it is told how far each is without a hole; that is in it, and all of it, if nothing is beyond a hole; and what some ids' part is. No condition beyond the statement's own. -/
-- Written by a program of this session (wip/pp.py over the kit's printer, with our own texts put in).
import Derived.Test.YtkfehkaiifjkmaaGreatRows
import Derived.Test.YtkfehkaiifjkmaaGreatP10
import Derived.Test.YtkfehkaiifjkmaaGreatAllKnowFirsts
import Derived.Test.YtkfehkaiifjkmaaGreatOpen
import Derived.WalkKit
import Derived.ProofKit
import Derived.OpenShut
import Derived.ShutString
import Derived.ChangeOld
import Derived.Below
import Derived.SizedLaws
namespace Go.Proofs.YtkfehkaiifjkmaaGreat.knowFirsts
open Go.ChangeShapes Go.WideShapes Go.ChangeAt Go.RowKit Go.Proofs.YtkfehkaiifjkmaaGreat.P Go.Proofs.YtkfehkaiifjkmaaGreatW.PrintWords
open Go.ChangeMaps (open_string shut_string)
set_option linter.unusedVariables false
theorem own : ownKnob Tryz.prog.godebug = none := by kernel_rfl
theorem laidOut : laidOutB Tryz.prog = true := by kernel_rfl
instance : Inhabited S59 := ⟨z59⟩
theorem op59 : Opens Tryz.prog 59 k59 (fun y => (fun x => (Lit.int .i64 x).wf = true) y.f0 ∧ (fun l => l.length ≤ maxLen ∧ ∀ x ∈ l, (fun x => (Lit.int .i64 x).wf = true) x) y.f1) := opens_struct (fun y : S59 => (y.f0, y.f1)) (fun p => (⟨p.1, p.2⟩ : S59)) (fun _ => rfl) Tryz.underlying59 (by kernel_rfl) (opensAt_cons (by kernel_rfl) (by kernel_rfl) (opens_int Tryz.underlying3) (opensAt_one (by kernel_rfl) (opens_slice Tryz.underlying57 (by kernel_rfl) (opens_int Tryz.underlying3))))
instance : Inhabited S61 := ⟨z61⟩
theorem op61 : Opens Tryz.prog 61 k61 (fun y => (fun x => x.size ≤ maxLen) y.f0 ∧ (fun y => (fun x => (Lit.int .i64 x).wf = true) y.f0 ∧ (fun l => l.length ≤ maxLen ∧ ∀ x ∈ l, (fun x => (Lit.int .i64 x).wf = true) x) y.f1) y.f1) := opens_struct (fun y : S61 => (y.f0, y.f1)) (fun p => (⟨p.1, p.2⟩ : S61)) (fun _ => rfl) Tryz.underlying61 (by kernel_rfl) (opensAt_cons (by kernel_rfl) (by kernel_rfl) (opens_string Tryz.underlying9) (opensAt_one (by kernel_rfl) op59))
instance : Inhabited S65 := ⟨z65⟩
theorem op65 : Opens Tryz.prog 65 k65 (fun y => (fun x => x.size ≤ maxLen) y.f0 ∧ (fun x => (Lit.int .i64 x).wf = true) y.f1) := opens_struct (fun y : S65 => (y.f0, y.f1)) (fun p => (⟨p.1, p.2⟩ : S65)) (fun _ => rfl) Tryz.underlying65 (by kernel_rfl) (opensAt_cons (by kernel_rfl) (by kernel_rfl) (opens_string Tryz.underlying9) (opensAt_one (by kernel_rfl) (opens_int Tryz.underlying3)))
set_option maxRecDepth 100000 in
theorem lifted (os : Os) (started : os.Started) (H : Type) (enc : TypeId × Value → H) :
    ReturnsInHanded {} Tryz.checked os 3 .any (Rows.knowFirstsSpec.pre6 enc Tryz.prog Tryz.f3 Rows.knowFirstsRow.domain false) (Rows.knowFirstsSpec.post enc Tryz.prog Tryz.f3 false true false false) := by
  refine returnsInHanded_of_change_sized (C := Tryz.checked) own started (by kernel_rfl) Tryz.func3
    (ChangeSpec.witness6 (enc := enc) (C := Tryz.checked) false ⟨#[], #[.slice none 0 0, .slice none 0 0, .slice none 0 0], []⟩ 8 (by kernel_rfl) (by kernel_rfl) (by kernel_rfl) (by kernel_rfl)) ?_
  intro W base args ds gs before hval0 hW hcnd hsz0 _
  have hsz : (DataW.weightsEach Tryz.prog (Tryz.f3.params.toList ++ Rows.knowFirstsSpec.plain.varTypes Tryz.prog) (ds ++ gs)).all (· ≤ reachBytes) = true := hsz0
  have hval : ∀ (j : Nat) t v, Tryz.f3.params[j]? = some t → args[j]? = some v → Value.okWide Tryz.prog W .any base t v := hval0
  have hW' := hW
  obtain ⟨p, q, hA0, hV, rfl, hfz, hnd⟩ := hW
  have hA : DataW.TrodAll enc Tryz.prog W 0 (fun _ => true) true Tryz.f3.params.toList args.toList ds p := hA0
  rw [Tryz.params3] at hA hval hsz
  obtain ⟨v0, vs0, d0, ds0, p0, q0, hargs, rfl, rfl, h0, r0⟩ := trodAll_cons hA
  obtain ⟨v1, vs1, d1, ds1, p1, q1, rfl, rfl, rfl, h1, r1⟩ := trodAll_cons r0
  obtain ⟨v2, vs2, d2, ds2, p2, q2, rfl, rfl, rfl, h2, r2⟩ := trodAll_cons r1
  obtain ⟨rfl, rfl, rfl⟩ := trodAll_nil r2
  obtain rfl : args = #[v0, v1, v2] := by cases args; simp_all
  obtain ⟨rfl, rfl⟩ := trodVars_none hV
  obtain ⟨a0, len0, cap0, rfl⟩ := okWide_slice Tryz.underlying22 (hval 0 22 v0 rfl rfl)
  have k0 := h0
  have lt0 : ∀ x ∈ p0, x.block < W.heap.size := by obtain ⟨m, hm⟩ := k0; exact DataW.trod_lt m _ _ _ hm
  obtain ⟨fu0, hf0⟩ := h0
  obtain ⟨l0, ⟨A0, c0, he0, hc0, hr0⟩, ho0, hp0⟩ := (opens_slice Tryz.underlying22 (by kernel_rfl) op61) hf0
  obtain ⟨rfl, rfl, rfl⟩ : a0 = A0 ∧ len0 = l0.length ∧ cap0 = c0 := by simpa [Value.cells] using he0
  obtain ⟨a1, len1, cap1, rfl⟩ := okWide_slice Tryz.underlying23 (hval 1 23 v1 rfl rfl)
  have k1 := h1
  have lt1 : ∀ x ∈ p1, x.block < W.heap.size := by obtain ⟨m, hm⟩ := k1; exact DataW.trod_lt m _ _ _ hm
  obtain ⟨fu1, hf1⟩ := h1
  obtain ⟨l1, ⟨A1, c1, he1, hc1, hr1⟩, ho1, hp1⟩ := (opens_slice Tryz.underlying23 (by kernel_rfl) op65) hf1
  obtain ⟨rfl, rfl, rfl⟩ : a1 = A1 ∧ len1 = l1.length ∧ cap1 = c1 := by simpa [Value.cells] using he1
  obtain ⟨a2, len2, cap2, rfl⟩ := okWide_slice Tryz.underlying24 (hval 2 24 v2 rfl rfl)
  have k2 := h2
  have lt2 : ∀ x ∈ p2, x.block < W.heap.size := by obtain ⟨m, hm⟩ := k2; exact DataW.trod_lt m _ _ _ hm
  obtain ⟨fu2, hf2⟩ := h2
  obtain ⟨l2, ⟨A2, c2, he2, hc2, hr2⟩, ho2, hp2⟩ := (opens_slice Tryz.underlying24 (by kernel_rfl) (opens_string Tryz.underlying9)) hf2
  obtain ⟨rfl, rfl, rfl⟩ : a2 = A2 ∧ len2 = l2.length ∧ cap2 = c2 := by simpa [Value.cells] using he2
  clear hA0 hval0 hsz0 hsz
  obtain ⟨k, hP⟩ := Pure.KnowFirsts l0 l1 l2 ho0 hp0 ho1 hp1 ho2 hp2
  refine (P.cenotaphlaw04_KnowFirsts.calls k _ _ l0 _ _ l1 _ _ l2 true W hr0 hc0 hr1 hc1 hr2 hc2 hP).mono fun e W' ⟨he, bel0⟩ => ?_
  have bel := bel0
  subst he
  exact ⟨_, rfl, _, _, _, [], _, [], hW', trodAll_mk1 (shut_bool Tryz.underlying4 _), (trodAll_cons_mk (Below.trod laidOut (by kernel_rfl) (of_decide_eq_true (by kernel_rfl)) k0 bel lt0) (trodAll_cons_mk (Below.trod laidOut (by kernel_rfl) (of_decide_eq_true (by kernel_rfl)) k1 bel lt1) (trodAll_cons_mk (Below.trod laidOut (by kernel_rfl) (of_decide_eq_true (by kernel_rfl)) k2 bel lt2) trodAll_mk0))), rfl, bel.frame _, fun h => by cases h⟩
theorem over : Rows.knowFirstsRow.holds Tryz.pinned (OpenSpec.ofChange Rows.knowFirstsSpec) :=
  OpenClaim.holds_of_wide 3 Tryz.f3 rfl rfl rfl rfl rfl rfl rfl ⟨rfl, rfl, rfl, rfl, rfl⟩ rfl rfl rfl rfl rfl (by kernel_rfl) Tryz.func3 (by kernel_rfl)
    (of_decide_eq_true (by kernel_rfl)) (by unfold Func.isWrapper; first | (rw [if_pos (by decide +kernel)]; kernel_rfl) | (rw [if_neg (by decide +kernel)]; exact ⟨rfl, rfl⟩))
    (fun os started H enc _ => lifted os started H enc)
theorem proved : Rows.KnowFirstsSaid := over
#print axioms proved
end Go.Proofs.YtkfehkaiifjkmaaGreat.knowFirsts
namespace Go.Proofs.YtkfehkaiifjkmaaGreat
/-- The row, under a short name, for the claim. -/
theorem knowFirsts_holds : Rows.KnowFirstsSaid := knowFirsts.proved
end Go.Proofs.YtkfehkaiifjkmaaGreat
