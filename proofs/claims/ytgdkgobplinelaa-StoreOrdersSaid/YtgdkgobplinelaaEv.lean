import Derived.Deep.MidRow
import Derived.Test.YtgdkgobplinelaaWLast
import Derived.Test.YtgdkgobplinelaaWMore
/- A whole element of a row of one's own is stored in a region that draws its order: the world behind it is a letter. No program in sight. -/
namespace Go.Proofs.Ytgdkgobplinelaa
open Go.RowKit Go.Proofs.YtgdkgobplinelaaW.PrintWords Go.Proofs.YtgdkgobplinelaaW.PrintWords.Kd Go.Proofs.YtgdkgobplinelaaW.PrintLast
set_option linter.unusedVariables false
theorem ev_ {P : Program} {ops : Array Oper} {Q : Exit → Act → World → Prop} {oi : Oper} {a : Act} {K : Act → World → Prop} {α : Type} (d : Kd α) {w0 W : World} {base : Nat} (z : α) (t : TypeId) {p x : Operand} {e : TypeId} {g n cap o' : Nat} (i : Int) {xs : List α} (x' : α) (cs : Array Value) {ok okp : Nat → Prop}
    (HO : d.R e W base ok (.slice (some ⟨g, 0, none⟩) n cap) xs) (HB : Below base w0 W) (h0 : 0 ≤ i) (hi : i < n) (hM : d.M W base okp x' cs.toList) (hokp : ∀ k, okp k → ok k ∧ k ≠ g)
    (hsz : cs.size = d.sz) (h1 : cs.toList.all (·.oneCell') = true) (ht : (P.info? t).map (·.size) = some cs.size)
    (hw : Region.wanted oi (yielded ops a.tmps) = true) (hN : oi.dst = none) (ho : oi.op = .store t p x) (ha : a.eval p = .pointer (some ⟨g, o', none⟩)) (hf : o' = i.toNat * d.sz) (hx : a.eval x = .agg cs)
    (h : ∀ w1, d.R e w1 base ok (.slice (some ⟨g, 0, none⟩) n cap) (xs.set i.toNat x') → Below base w0 w1 → W.grownBy w1 (some g) → K a w1) :
    if Region.wanted oi (yielded ops a.tmps) = true then Oper.wp P oi a W K Q else K (a.put none undef) W := by
  subst hf
  obtain ⟨c, hcl, hMc, hcc, hfr⟩ := R_elem HO z i h0 hi
  have hsl : cs.toList.length = d.sz := by rw [Array.length_toList, hsz]
  obtain ⟨hrow, hg⟩ := R_seg HO i h0 hi (seg := cs.toList) (j := 0) hcl hcc (by omega) (x' := x') (okp := okp)
    (by rw [List.take_zero, List.nil_append, Nat.zero_add, List.drop_eq_nil_of_le (by omega), List.append_nil]; exact hM) hokp
  have hbg : base ≤ g := R_base HO g (by simp [Value.ownBlock])
  have hst := run_storeAt_mid (P := P) W g (i.toNat * d.sz) t cs (fun j hj => ⟨by
    have hjc : j < c.length := by omega
    rw [hcc j _ (List.getElem?_eq_getElem hjc)]; rfl, hfr j⟩) ht (by rw [← Array.all_toList]; exact h1)
  refine skip_ (w1 := W.setCells g (i.toNat * d.sz) cs.toList) hw hN ?_ (h _ hrow (HB.trans ⟨hg.os, hg.tape, hg.output, hg.size, fun k hk => setCells_far cs.toList _ k (by omega)⟩) hg)
  unfold execOp
  simp only [ho, ha, hx, Sem.run_bind, hst, Result.andThen_ok]
  rfl
end Go.Proofs.Ytgdkgobplinelaa
