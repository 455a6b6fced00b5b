import Derived.Test.YtloeealbggobjaaIds2
import Derived.Test.YtloeealbggobjaaVecZ
import Derived.Test.YtloeealbggobjaaP0
import Derived.Test.YtloeealbggobjaaP4
/- What the program's Vecs come to, in plain words: how far one is, and one farther. -/
namespace Go.Proofs.Ytloeealbggobjaa.Pure
open Go.RowKit Go.Proofs.Ytloeealbggobjaa Go.Proofs.Ytloeealbggobjaa.P Go.Proofs.YtloeealbggobjaaW.PrintWords Go.Proofs.YtloeealbggobjaaW.PrintLast
set_option linter.unusedVariables false
set_option linter.unusedSimpArgs false
abbrev SA := S59
def sA : AtS SA := ⟨fun x => x.f0, fun x => x.f1, fun a n => ⟨a, n⟩, fun _ _ => rfl, fun _ _ => rfl, fun _ => rfl⟩
theorem toL_eq {a b : ByteArray} : a.toList = b.toList ↔ a = b := by
  rw [Lib.toList_data, Lib.toList_data]
  exact ⟨fun h => bytes_ext h, fun h => by rw [h]⟩
theorem rdA (l : List SA) (n : Nat) : rd_T59 l (n : Int) = l.getD n z59 := rfl
theorem cloneA (l : List SA) (h : l.length < 1000000000) : vec_At_44.f l = some l := by
  simp only [vec_At_44.f, Option.bind_some, List.length_nil, List.nil_append]
  rw [if_pos (by omega)]
theorem findA {l : List SA} (h : PV sA l) (a : ByteArray) :
    (bsB (fun i => cmpB (l.getD i z59).f0 a) l.length = true → ∃ hi : bsN (fun i => cmpB (l.getD i z59).f0 a) l.length < l.length, (l[bsN (fun i => cmpB (l.getD i z59).f0 a) l.length]).f0 = a ∧ getM sA.id a l = some l[bsN (fun i => cmpB (l.getD i z59).f0 a) l.length]) ∧
    (bsB (fun i => cmpB (l.getD i z59).f0 a) l.length = false → getM sA.id a l = none ∧ bsN (fun i => cmpB (l.getD i z59).f0 a) l.length ≤ l.length ∧
      (∀ x ∈ l.take (bsN (fun i => cmpB (l.getD i z59).f0 a) l.length), ltB x.f0 a) ∧ ∀ x ∈ l.drop (bsN (fun i => cmpB (l.getD i z59).f0 a) l.length), ltB a x.f0) := find_spec (key := sA.id) z59 h.ks a
theorem vec_of {l : List SA} (h : PV sA l) (hl : l.length < 1000000000) (a : ByteArray) : vec_Of.f l a = some (ofV sA l a) := by
  obtain ⟨h1, h2⟩ := findA h a
  unfold vec_Of.f vec_find.f
  rw [if_pos (by omega), Option.bind_some]
  dsimp only
  cases hb : bsB (fun i => cmpB (l.getD i z59).f0 a) l.length with
  | true =>
    obtain ⟨hi, e, g⟩ := h1 hb
    rw [if_pos rfl, if_pos (by omega), if_pos (by omega), rdA]
    unfold ofV
    rw [g, getD_eq hi]; rfl
  | false =>
    obtain ⟨g, _⟩ := h2 hb
    rw [if_neg (by simp)]
    unfold ofV
    rw [g]
theorem vec_set {l : List SA} (h : PV sA l) (hl : l.length < 1000000000) (a : ByteArray) (m : Int) : vec_Set.f l a m = some (setV sA l a m) := by
  obtain ⟨h1, h2⟩ := findA h a
  unfold vec_Set.f
  rw [if_pos hl]
  congr 1
  unfold vec_Set.v setV
  by_cases hc : rightB a = true ∧ 1 ≤ m
  · rw [if_pos hc, if_pos hc]
    have hn := h.nonneg a
    cases hb : bsB (fun i => cmpB (l.getD i z59).f0 a) l.length with
    | true =>
      obtain ⟨hi, e, g⟩ := h1 hb
      have ho : ofV sA l a = (l[bsN (fun i => cmpB (l.getD i z59).f0 a) l.length]).f1 := by unfold ofV; rw [g]; rfl
      rw [if_pos rfl]
      unfold putV
      rw [if_neg (by omega), mx_max, mn_min, getD_eq hi]
      rw [← putM_set toB (sA.of a (max (ofV sA l a) (min m 1048576))) h.ks hi e, ho]
      congr 1
      show (⟨_, _⟩ : SA) = ⟨a, _⟩
      rw [e]
    | false =>
      obtain ⟨g, _, hp, hq⟩ := h2 hb
      have ho : ofV sA l a = 0 := by unfold ofV; rw [g]
      rw [if_neg (by simp)]
      unfold putV
      rw [if_neg (by omega), ho, mn_min, show max 0 (min m 1048576) = min m 1048576 by omega]
      have := putM_parts (lt := ltB) (key := sA.id) toB (sA.of a (min m 1048576)) (p := l.take (bsN (fun i => cmpB (l.getD i z59).f0 a) l.length)) (q := l.drop (bsN (fun i => cmpB (l.getD i z59).f0 a) l.length)) (by rw [List.take_append_drop]; exact h.ks) hp hq
      rw [List.take_append_drop] at this
      exact this
  · rw [if_neg hc, if_neg hc]
end Go.Proofs.Ytloeealbggobjaa.Pure
