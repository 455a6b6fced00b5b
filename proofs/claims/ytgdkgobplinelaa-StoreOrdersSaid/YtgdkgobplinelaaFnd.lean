import Derived.Test.YtgdkgobplinelaaWLast
/- The first place at which something holds. No program in sight. -/
namespace Go.Proofs.Ytgdkgobplinelaa
set_option linter.unusedVariables false
set_option linter.unusedSimpArgs false
def idxP {α : Type} (p : α → Bool) : List α → Nat
  | [] => 0
  | x :: t => if p x = true then 0 else idxP p t + 1
theorem idxP_le {α : Type} (p : α → Bool) : ∀ l : List α, idxP p l ≤ l.length
  | [] => Nat.le_refl _
  | x :: t => by
    unfold idxP
    split
    · exact Nat.zero_le _
    · exact Nat.succ_le_succ (idxP_le p t)
/-- The place as Go tells it: -1 where there is none. -/
def idxI {α : Type} (p : α → Bool) (l : List α) : Int := if idxP p l < l.length then (idxP p l : Int) else -1
theorem idxP_found {α : Type} (p : α → Bool) (z : α) : ∀ (l : List α) (i : Nat), i < l.length → (∀ j, j < i → p (l.getD j z) = false) → p (l.getD i z) = true → idxP p l = i
  | [], i, hi, _, _ => absurd hi (by simp)
  | x :: t, 0, _, _, h => by
    have : p x = true := h
    unfold idxP; rw [if_pos this]
  | x :: t, i + 1, hi, hn, h => by
    have h0 : p x = false := hn 0 (Nat.succ_pos _)
    unfold idxP
    rw [if_neg (by rw [h0]; simp), idxP_found p z t i (by simpa using hi) (fun j hj => hn (j + 1) (by omega)) h]
theorem idxI_found {α : Type} (p : α → Bool) (z : α) (l : List α) (i : Nat) (hi : i < l.length) (hn : ∀ j, j < i → p (l.getD j z) = false) (h : p (l.getD i z) = true) : idxI p l = (i : Int) := by
  unfold idxI
  rw [idxP_found p z l i hi hn h, if_pos hi]
theorem idxP_none {α : Type} (p : α → Bool) (z : α) : ∀ (l : List α), (∀ j, j < l.length → p (l.getD j z) = false) → idxP p l = l.length
  | [], _ => rfl
  | x :: t, hn => by
    have h0 : p x = false := hn 0 (by simp)
    unfold idxP
    rw [if_neg (by rw [h0]; simp), idxP_none p z t (fun j hj => hn (j + 1) (by simpa using hj))]
    rfl
theorem idxI_none {α : Type} (p : α → Bool) (z : α) (l : List α) (hn : ∀ j, j < l.length → p (l.getD j z) = false) : idxI p l = -1 := by
  unfold idxI
  rw [idxP_none p z l hn, if_neg (Nat.lt_irrefl _)]
theorem filter_none {α : Type} (p : α → Bool) (l : List α) (h : idxP p l = l.length) : l.filter (fun x => !p x) = l := by
  rw [List.filter_eq_self]
  intro x hx
  induction l with
  | nil => cases hx
  | cons y t ih =>
    unfold idxP at h
    by_cases hy : p y = true
    · rw [if_pos hy] at h; simp at h
    · rw [if_neg hy] at h
      rcases List.mem_cons.mp hx with e | hx
      · subst e; simpa using hy
      · exact ih (by simpa using h) hx
theorem filter_take {α : Type} (p : α → Bool) : ∀ (l : List α), (l.take (idxP p l)).filter (fun x => !p x) = l.take (idxP p l)
  | [] => rfl
  | x :: t => by
    unfold idxP
    by_cases h : p x = true
    · rw [if_pos h]; rfl
    · rw [if_neg h, List.take_succ_cons, List.filter_cons_of_pos (by simpa using h), filter_take p t]
theorem idxP_at {α : Type} (p : α → Bool) (z : α) : ∀ (l : List α), idxP p l < l.length → p (l.getD (idxP p l) z) = true
  | [], h => absurd h (by simp)
  | x :: t, h => by
    unfold idxP at h ⊢
    by_cases hx : p x = true
    · rw [if_pos hx]; exact hx
    · rw [if_neg hx] at h ⊢
      exact idxP_at p z t (by simpa using h)
/-! What is left as the list is gone through, in place. -/
theorem take_succ_get {α : Type} (l : List α) (z : α) (n : Nat) (h : n < l.length) : l.take (n + 1) = l.take n ++ [l.getD n z] := by
  rw [List.take_add_one, List.getD_eq_getElem?_getD, List.getElem?_eq_getElem h]; rfl
theorem del_start {α : Type} (p : α → Bool) (z : α) (l : List α) (h : idxP p l < l.length) : l.take (idxP p l) = (l.take (idxP p l + 1)).filter (fun x => !p x) := by
  rw [take_succ_get l z _ h, List.filter_append, filter_take, List.filter_cons_of_neg (by rw [idxP_at p z l h]; simp)]; simp
theorem drop_get {α : Type} {L l : List α} (z : α) {j : Nat} (h : L.drop j = l.drop j) (hj : j < l.length) : L.getD j z = l.getD j z := by
  have h1 : (L.drop j)[0]? = (l.drop j)[0]? := by rw [h]
  rw [List.getElem?_drop, List.getElem?_drop, Nat.add_zero] at h1
  rw [List.getD_eq_getElem?_getD, List.getD_eq_getElem?_getD, h1]
theorem drop_succ_eq {α : Type} {L l : List α} {j : Nat} (h : L.drop j = l.drop j) : L.drop (j + 1) = l.drop (j + 1) := by
  rw [← List.drop_drop, ← List.drop_drop, h]
theorem del_skip {α : Type} (p : α → Bool) (z : α) {L l : List α} {i j : Nat} (h : L.take i = (l.take j).filter (fun x => !p x)) (hj : j < l.length) (hp : p (l.getD j z) = true) : L.take i = (l.take (j + 1)).filter (fun x => !p x) := by
  rw [take_succ_get l z j hj, List.filter_append, ← h, List.filter_cons_of_neg (by rw [hp]; simp)]; simp
theorem del_keep {α : Type} (p : α → Bool) (z : α) {L l : List α} {i j : Nat} (h : L.take i = (l.take j).filter (fun x => !p x)) (hj : j < l.length) (hi : i < L.length) (hp : p (l.getD j z) = false) : (L.set i (l.getD j z)).take (i + 1) = (l.take (j + 1)).filter (fun x => !p x) := by
  rw [take_succ_get l z j hj, List.filter_append, ← h, List.filter_cons_of_pos (by rw [hp]; rfl), List.filter_nil, take_succ_get _ z i (by simpa using hi)]
  congr 1
  · rw [List.take_set_of_le (Nat.le_refl _)]
  · simp [List.getD, List.getElem?_eq_getElem, hi]
theorem del_drop {α : Type} {L l : List α} {i j : Nat} (x : α) (h : L.drop j = l.drop j) (hij : i < j) : (L.set i x).drop (j + 1) = l.drop (j + 1) := by
  rw [List.drop_set_of_lt (by omega)]; exact drop_succ_eq h
/-! A call through a function value, in a region that draws its order. -/
open Go.RowKit Go.Proofs.YtgdkgobplinelaaW.PrintLast
section
variable {P : Program} {ops : Array Oper} {Q : Exit → Act → World → Prop}
theorem goesV_ {oi : Oper} {N : Option Tmp} {a : Act} {w : World} {K : Act → World → Prop} {f : FuncId} {fn : Func} {x : Operand} {cb : Array Value} {as : Array Operand} {ts : Array TypeId} (hf : P.funcs[f]? = some fn) (hname : (fn.name == "runtime.NumGoroutine") = false) (hb : fn.body.isSome = true) (args : Array Value)
    (hw : Region.wanted oi (yielded ops a.tmps) = true) (hN : oi.dst = N) (hop : oi.op = .call { callee := .value x, args := as, argTypes := ts }) (hx : a.eval x = .func (.func f) #[] cb) (hargs : as.map a.eval = args)
    (h : Calls P f (args ++ cb) w fun e w' => ∃ v, e = .returned v ∧ K (a.put N v) w') : if Region.wanted oi (yielded ops a.tmps) = true then Oper.wp P oi a w K Q else K (a.put N undef) w := by
  refine call_ f (args ++ cb) hw hN ?_ h
  have he := enters_ hf hname hb (args ++ cb) w
  unfold execOp
  simp [hop, resolve, Deferred.ofValue, invoke, hx, hargs, he]
end
end Go.Proofs.Ytgdkgobplinelaa
