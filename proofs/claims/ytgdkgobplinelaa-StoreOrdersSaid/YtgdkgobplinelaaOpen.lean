import Derived.Test.YtgdkgobplinelaaWWords
import Derived.Deep.Slices
import Derived.OpenShut
/- What comes in, opened: a value that reads as data of a type is of the kind that goes with the type. No program in sight. -/
namespace Go.Proofs.Ytgdkgobplinelaa
open Go.RowKit Go.ChangeShapes Go.WideShapes Go.Proofs.YtgdkgobplinelaaW.PrintWords
set_option linter.unusedVariables false
/-- Whatever reads as data of type t is of kind d, and has the property ok. -/
def Opens {α : Type} (P : Program) (t : TypeId) (d : Kd α) (ok : α → Prop) : Prop :=
  ∀ {H : Type} {enc : TypeId × Value → H} {w : World} {base : Nat} {spare : Nat → Bool} {held : Bool} {fuel : Nat} {cs : List Value} {x : DataW H × List MemPlace},
    DataW.trod enc P w base spare held fuel t cs = some x → ∃ y, d.K w y cs ∧ ok y
section
variable {P : Program} {t e : TypeId}
theorem opens_int {k : IntKind} (ht : P.underlying t = some (.int k)) : Opens P t (Kd.int k) (fun x => (Lit.int k x).wf = true) := by
  intro H enc w base spare held fuel cs x h
  obtain ⟨a, e0, rfl, wa⟩ := DataW.trod_int ht h
  exact ⟨a, e0, wa⟩
theorem opens_bool (ht : P.underlying t = some .bool) : Opens P t Kd.bool (fun _ => True) := by
  intro H enc w base spare held fuel cs x h
  cases fuel with
  | zero => simp [DataW.trod] at h
  | succ m =>
    unfold DataW.trod at h
    rw [ht] at h
    match cs, h with
    | [.bool b], _ => exact ⟨b, rfl, trivial⟩
theorem opens_string (ht : P.underlying t = some .string) : Opens P t Kd.string (fun x => x.size ≤ maxLen) := by
  intro H enc w base spare held fuel cs x h
  cases fuel with
  | zero => simp [DataW.trod] at h
  | succ m =>
    unfold DataW.trod at h
    rw [ht] at h
    match cs, h with
    | [.string s], h =>
      simp only at h
      split at h
      · exact ⟨s, rfl, ‹_›⟩
      · cases h
theorem cells_mapM {w : World} {base : Nat} {a : Addr} {n : Nat} {cs : List Value} (h : w.cells? base a n = some cs) : cs.length = n ∧ ∀ i u, cs[i]? = some u → w.cell? (a.add i) = some u := by
  unfold World.cells? at h
  split at h
  · have key : ∀ (m : Nat) (l : List Nat) (cs : List Value), l.mapM (fun i => w.cell? (a.add i)) = some cs → cs.length = l.length ∧ ∀ (i : Nat) u, cs[i]? = some u → ∃ j, l[i]? = some j ∧ w.cell? (a.add j) = some u := by
      intro m l
      induction l with
      | nil => intro cs h; simp at h; subst h; simp
      | cons j l ih =>
        intro cs h
        simp only [List.mapM_cons, Option.bind_eq_bind, Option.bind_eq_some_iff] at h
        obtain ⟨u, hu, r, hr, he⟩ := h
        obtain ⟨h1, h2⟩ := ih r hr
        have he' : cs = u :: r := (Option.some.inj he).symm
        subst he'
        refine ⟨by simp [h1], fun i v hv => ?_⟩
        cases i with
        | zero => simp at hv; subst hv; exact ⟨j, rfl, hu⟩
        | succ i => simpa using h2 i v (by simpa using hv)
    obtain ⟨h1, h2⟩ := key 0 (List.range n) cs h
    refine ⟨by simpa using h1, fun i u hu => ?_⟩
    obtain ⟨j, hj, hc⟩ := h2 i u hu
    have hl := (List.getElem?_eq_some_iff.1 hu).1
    rw [h1, List.length_range] at hl
    rw [List.getElem?_range hl] at hj
    cases hj
    exact hc
  · cases h
theorem add_add' (a : Addr) (i j : Nat) : (a.add i).add j = a.add (i + j) := Go.Deep.add_add a i j
theorem opens_slice {α : Type} [Inhabited α] {d : Kd α} {ok : α → Prop} (ht : P.underlying t = some (.slice e)) (hc : P.cellsOf e = d.sz) (he : Opens P e d ok) : Opens P t (Kd.slice e d) (fun l => l.length ≤ maxLen ∧ ∀ x ∈ l, ok x) := by
  intro H enc w base spare held fuel cs x h
  rcases Go.Deep.open_slice ht h with ⟨rfl, _⟩ | ⟨a, len, cap, m, n, D, Pl, rfl, hb, hl, hm, hmm, rfl, hx⟩
  · exact ⟨[], ⟨none, 0, rfl, Nat.le_refl _, rfl, Nat.zero_le _, fun h => absurd h (Nat.lt_irrefl _)⟩, Nat.zero_le _, fun x hx => by cases hx⟩
  · have hle : len ≤ m := by rw [hmm]; split <;> omega
    have key : ∀ i, i < len → ∃ y, (∃ cs', cs'.length = d.sz ∧ d.K w y cs' ∧ ∀ j u, cs'[j]? = some u → w.cell? (a.add (i * d.sz + j)) = some u) ∧ ok y := by
      intro i hi
      obtain ⟨cs', h1, h2⟩ := hx i (by omega)
      obtain ⟨y, hk, hy⟩ := he h2
      rw [hc] at h1
      obtain ⟨h3, h4⟩ := cells_mapM h1
      exact ⟨y, ⟨cs', h3, hk, fun j u hu => by rw [← add_add']; exact h4 j u hu⟩, hy⟩
    obtain ⟨f, hf⟩ := Go.Deep.choose_lt key
    have hlen : ((List.range len).map f).length = len := by simp
    have hget : ∀ j p, ((List.range len).map f)[j]? = some p → j < len ∧ f j = p := by
      intro j p hj
      have hl2 := (List.getElem?_eq_some_iff.1 hj).1
      rw [hlen] at hl2
      rw [List.getElem?_map, List.getElem?_range hl2] at hj
      exact ⟨hl2, by simpa using hj⟩
    refine ⟨(List.range len).map f, ⟨some a, cap, by rw [hlen], by rw [hlen]; exact hl, hlen.trans hlen.symm, by rw [hlen]; simp only [maxLen] at hm; omega, fun _ => ⟨a, rfl, fun j p hj => ?_⟩⟩, by rw [hlen]; omega, fun y hy => ?_⟩
    · obtain ⟨hj1, rfl⟩ := hget j p hj
      obtain ⟨⟨cs', h1, h2, h3⟩, _⟩ := hf j hj1
      exact ⟨cs', h1, h2, h3⟩
    · obtain ⟨j, hj, rfl⟩ := List.mem_map.1 hy
      exact (hf j (List.mem_range.1 hj)).2
/-- A record's fields, from one on, side by side. -/
def OpensAt {α : Type} (P : Program) (fs : List Field) (off : Nat) (d : Kd α) (ok : α → Prop) : Prop :=
  ∀ {H : Type} {enc : TypeId × Value → H} {w : World} {base : Nat} {spare : Nat → Bool} {held : Bool} {n : Nat} {cs : List Value} {xs : List (DataW H × List MemPlace)},
    xs.length = fs.length → (∀ (i : Nat) (f : Field), fs[i]? = some f → DataW.trod enc P w base spare held n f.type ((cs.drop f.offset).take (P.cellsOf f.type)) = xs[i]?) → ∃ y, d.K w y ((cs.drop off).take d.sz) ∧ ok y
theorem opensAt_one {α : Type} {d : Kd α} {ok : α → Prop} {f : Field} (hc : P.cellsOf f.type = d.sz) (he : Opens P f.type d ok) : OpensAt P [f] f.offset d ok := by
  intro H enc w base spare held n cs xs hl hx
  have h0 := hx 0 f rfl
  match xs, hl with
  | [x0], _ =>
    rw [hc] at h0
    exact he h0
theorem opensAt_cons {α β : Type} {d : Kd α} {d2 : Kd β} {ok : α → Prop} {ok2 : β → Prop} {f : Field} {fs : List Field} {off : Nat} (hc : P.cellsOf f.type = d.sz) (ho : off = f.offset + d.sz) (he : Opens P f.type d ok) (hs : OpensAt P fs off d2 ok2) :
    OpensAt P (f :: fs) f.offset (Kd.pair d d2) (fun y => ok y.1 ∧ ok2 y.2) := by
  intro H enc w base spare held n cs xs hl hx
  match xs, hl with
  | x0 :: xs, hl =>
    have h0 := hx 0 f rfl
    obtain ⟨y0, k0, o0⟩ := he h0
    obtain ⟨y1, k1, o1⟩ := hs (xs := xs) (cs := cs) (by simpa using hl) (fun i f hf => by simpa using hx (i + 1) f (by simpa using hf))
    rw [hc] at k0
    refine ⟨(y0, y1), ⟨_, _, ?_, k0, k1⟩, o0, o1⟩
    subst ho
    show (cs.drop f.offset).take (d.sz + d2.sz) = _
    rw [List.take_add, List.drop_drop]
theorem opens_struct {α β : Type} {fs : List Field} {d : Kd α} {ok : α → Prop} (f : β → α) (g : α → β) (hfg : ∀ y, f (g y) = y) (ht : P.underlying t = some (.struct fs.toArray)) (hc : P.cellsOf t = d.sz) (hs : OpensAt P fs 0 d ok) :
    Opens P t (Kd.iso d f) (fun y => ok (f y)) := by
  intro H enc w base spare held fuel cs x h
  obtain ⟨xs, n, _, rfl, hl, hlen, hf⟩ := DataW.trod_struct ht h
  obtain ⟨y, k, o⟩ := hs (xs := xs) (cs := cs) (n := n) (enc := enc) (w := w) (base := base) (spare := spare) (held := held) (by simpa using hlen) (fun i f hi => hf i f (by simpa using hi))
  refine ⟨g y, ?_, ?_⟩
  · show d.K w (f (g y)) cs
    rw [hfg]
    rwa [List.drop_zero, List.take_of_length_le (by rw [hl, hc]; exact Nat.le_refl _)] at k
  · show ok (f (g y)); rw [hfg]; exact o
end
end Go.Proofs.Ytgdkgobplinelaa
