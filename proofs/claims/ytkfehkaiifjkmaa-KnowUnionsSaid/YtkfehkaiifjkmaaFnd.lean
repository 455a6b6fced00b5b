import Derived.Test.YtkfehkaiifjkmaaWLast
/- The first place at which something holds. No program in sight. -/
namespace Go.Proofs.Ytkfehkaiifjkmaa
set_option linter.unusedVariables false
set_option linter.unusedSimpArgs false
def idxP {α : Type} (p : α → Bool) : List α → Nat
  | [] => 0
  | x :: t => if p x = true then 0 else idxP p t + 1
theorem idxP_le {α : Type} (p : α → Bool) : ∀ l : List α, idxP p l ≤ l.length
  | [] => Nat.le_refl _
  | x :: t => by
    unfold idxP
    split
    · exact Nat.zero_le _
    · exact Nat.succ_le_succ (idxP_le p t)
/-- The place as Go tells it: -1 where there is none. -/
def idxI {α : Type} (p : α → Bool) (l : List α) : Int := if idxP p l < l.length then (idxP p l : Int) else -1
theorem idxP_found {α : Type} (p : α → Bool) (z : α) : ∀ (l : List α) (i : Nat), i < l.length → (∀ j, j < i → p (l.getD j z) = false) → p (l.getD i z) = true → idxP p l = i
  | [], i, hi, _, _ => absurd hi (by simp)
  | x :: t, 0, _, _, h => by
    have : p x = true := h
    unfold idxP; rw [if_pos this]
  | x :: t, i + 1, hi, hn, h => by
    have h0 : p x = false := hn 0 (Nat.succ_pos _)
    unfold idxP
    rw [if_neg (by rw [h0]; simp), idxP_found p z t i (by simpa using hi) (fun j hj => hn (j + 1) (by omega)) h]
theorem idxI_found {α : Type} (p : α → Bool) (z : α) (l : List α) (i : Nat) (hi : i < l.length) (hn : ∀ j, j < i → p (l.getD j z) = false) (h : p (l.getD i z) = true) : idxI p l = (i : Int) := by
  unfold idxI
  rw [idxP_found p z l i hi hn h, if_pos hi]
theorem idxP_none {α : Type} (p : α → Bool) (z : α) : ∀ (l : List α), (∀ j, j < l.length → p (l.getD j z) = false) → idxP p l = l.length
  | [], _ => rfl
  | x :: t, hn => by
    have h0 : p x = false := hn 0 (by simp)
    unfold idxP
    rw [if_neg (by rw [h0]; simp), idxP_none p z t (fun j hj => hn (j + 1) (by simpa using hj))]
    rfl
theorem idxI_none {α : Type} (p : α → Bool) (z : α) (l : List α) (hn : ∀ j, j < l.length → p (l.getD j z) = false) : idxI p l = -1 := by
  unfold idxI
  rw [idxP_none p z l hn, if_neg (Nat.lt_irrefl _)]
theorem idxI_any {α : Type} (p : α → Bool) : ∀ (l : List α), decide (idxI p l ≥ 0) = l.any p
  | [] => rfl
  | x :: t => by
    have ih := idxI_any p t
    unfold idxI at ih ⊢
    rw [List.any_cons]
    unfold idxP
    by_cases h : p x = true
    · rw [if_pos h, h, if_pos (by simp)]; rfl
    · rw [if_neg h, show p x = false by simpa using h, Bool.false_or, ← ih]
      have hl := idxP_le p t
      by_cases h2 : idxP p t < t.length
      · rw [if_pos h2, if_pos (by simp; omega)]
        rw [decide_eq_true (by omega), decide_eq_true (by omega)]
      · rw [if_neg h2, if_neg (by simp; omega)]
/-! What is left as the list is gone through, in place. -/
/-! A call through a function value, in a region that draws its order. -/
open Go.RowKit Go.Proofs.YtkfehkaiifjkmaaW.PrintLast
section
variable {P : Program} {ops : Array Oper} {Q : Exit → Act → World → Prop}
theorem goesV_ {oi : Oper} {N : Option Tmp} {a : Act} {w : World} {K : Act → World → Prop} {f : FuncId} {fn : Func} {x : Operand} {cb : Array Value} {as : Array Operand} {ts : Array TypeId} (hf : P.funcs[f]? = some fn) (hname : (fn.name == "runtime.NumGoroutine") = false) (hb : fn.body.isSome = true) (args : Array Value)
    (hw : Region.wanted oi (yielded ops a.tmps) = true) (hN : oi.dst = N) (hop : oi.op = .call { callee := .value x, args := as, argTypes := ts }) (hx : a.eval x = .func (.func f) #[] cb) (hargs : as.map a.eval = args)
    (h : Calls P f (args ++ cb) w fun e w' => ∃ v, e = .returned v ∧ K (a.put N v) w') : if Region.wanted oi (yielded ops a.tmps) = true then Oper.wp P oi a w K Q else K (a.put N undef) w := by
  refine call_ f (args ++ cb) hw hN ?_ h
  have he := enters_ hf hname hb (args ++ cb) w
  unfold execOp
  simp [hop, resolve, Deferred.ofValue, invoke, hx, hargs, he]
end
end Go.Proofs.Ytkfehkaiifjkmaa
