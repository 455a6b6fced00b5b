import Derived.Test.YtejoofeigeoboaaOrdZ
/- Spans of numbers: how many first ones there are, and which others. No program in sight. -/
namespace Go.Proofs.Ytejoofeigeoboaa
/-- The number is there. -/
def memS (u : Int) (e : List Int) (n : Int) : Prop := (1 ≤ n ∧ n ≤ u) ∨ n ∈ e
instance (u : Int) (e : List Int) (n : Int) : Decidable (memS u e n) := by unfold memS; infer_instance
structure OkS (u : Int) (e : List Int) : Prop where
  lo : 0 ≤ u
  up : u ≤ 1048576
  sort : e.Pairwise (fun x y : Int => x < y)
  gap : ∀ x ∈ e, u + 1 < x
  hi : ∀ x ∈ e, x ≤ 1048576
theorem OkS.nil {u : Int} (h0 : 0 ≤ u) (h1 : u ≤ 1048576) : OkS u [] := ⟨h0, h1, List.Pairwise.nil, by simp, by simp⟩
theorem OkS.mem_pos {u : Int} {e : List Int} (h : OkS u e) {n : Int} (hm : memS u e n) : 1 ≤ n ∧ n ≤ 1048576 := by
  rcases hm with hm | hm
  · exact ⟨hm.1, Int.le_trans hm.2 h.up⟩
  · have := h.gap n hm; have := h.hi n hm; have := h.lo; omega
/-- Two right ones with the same numbers are one. -/
theorem okS_unique {u1 u2 : Int} {e1 e2 : List Int} (h1 : OkS u1 e1) (h2 : OkS u2 e2) (h : ∀ n, memS u1 e1 n ↔ memS u2 e2 n) : u1 = u2 ∧ e1 = e2 := by
  have key : ∀ {u1 u2 : Int} {e1 e2 : List Int}, OkS u1 e1 → OkS u2 e2 → (∀ n, memS u1 e1 n ↔ memS u2 e2 n) → ¬ u1 < u2 := by
    intro u1 u2 e1 e2 h1 h2 h hlt
    have hm : memS u2 e2 (u1 + 1) := Or.inl ⟨by have := h1.lo; omega, by omega⟩
    rcases (h _).mpr hm with hx | hx
    · omega
    · have := h1.gap _ hx; omega
  have hu : u1 = u2 := by
    have a := key h1 h2 h
    have b := key h2 h1 fun n => (h n).symm
    omega
  subst hu
  refine ⟨rfl, ssort_unique toZ h1.sort h2.sort fun x => ?_⟩
  constructor
  · intro hx
    rcases (h x).mp (Or.inr hx) with hy | hy
    · have := h1.gap x hx; omega
    · exact hy
  · intro hx
    rcases (h x).mpr (Or.inr hx) with hy | hy
    · have := h2.gap x hx; omega
    · exact hy
/-- What lies at the first ones' end goes over to them. -/
def foldZ (u : Int) : List Int → Int × List Int
  | [] => (u, [])
  | x :: t => if x ≤ u + 1 then foldZ (if u < x then x else u) t else (u, x :: t)
theorem foldZ_spec : ∀ (l : List Int) (u : Int), 0 ≤ u → u ≤ 1048576 → l.Pairwise (fun x y : Int => x < y) → (∀ x ∈ l, 1 ≤ x ∧ x ≤ 1048576) →
    OkS (foldZ u l).1 (foldZ u l).2 ∧ (∀ n, memS (foldZ u l).1 (foldZ u l).2 n ↔ memS u l n) ∧ (foldZ u l).2.length ≤ l.length
  | [], u, h0, h1, _, _ => ⟨OkS.nil h0 h1, fun _ => Iff.rfl, Nat.le_refl _⟩
  | x :: t, u, h0, h1, hs, hm => by
    have hx := hm x (by simp)
    rw [List.pairwise_cons] at hs
    unfold foldZ
    by_cases hc : x ≤ u + 1
    · rw [if_pos hc]
      obtain ⟨a, b, c⟩ := foldZ_spec t (if u < x then x else u) (by split <;> omega) (by split <;> omega) hs.2 fun y hy => hm y (by simp [hy])
      refine ⟨a, fun n => (b n).trans ?_, Nat.le_trans c (by simp)⟩
      unfold memS
      rw [List.mem_cons]
      by_cases hux : u < x
      · rw [if_pos hux]
        constructor
        · rintro (h | h)
          · by_cases hn : n ≤ u
            · exact Or.inl ⟨h.1, hn⟩
            · exact Or.inr (Or.inl (by omega))
          · exact Or.inr (Or.inr h)
        · rintro (h | h | h)
          · exact Or.inl ⟨h.1, by omega⟩
          · exact Or.inl ⟨by omega, by omega⟩
          · exact Or.inr h
      · rw [if_neg hux]
        constructor
        · rintro (h | h)
          · exact Or.inl h
          · exact Or.inr (Or.inr h)
        · rintro (h | h | h)
          · exact Or.inl h
          · exact Or.inl ⟨by omega, by omega⟩
          · exact Or.inr h
    · rw [if_neg hc]
      refine ⟨⟨h0, h1, ?_, ?_, fun y hy => (hm y hy).2⟩, fun _ => Iff.rfl, Nat.le_refl _⟩
      · rw [List.pairwise_cons]; exact hs
      · intro y hy
        rcases List.mem_cons.mp hy with e | e
        · subst e; omega
        · have := hs.1 y e; omega
/-- What either has. -/
def unionS (u1 : Int) (e1 : List Int) (u2 : Int) (e2 : List Int) : Int × List Int := foldZ (if u1 < u2 then u2 else u1) (unionZ (e1 ++ e2))
theorem unionS_spec {u1 u2 : Int} {e1 e2 : List Int} (h1 : OkS u1 e1) (h2 : OkS u2 e2) :
    OkS (unionS u1 e1 u2 e2).1 (unionS u1 e1 u2 e2).2 ∧ (∀ n, memS (unionS u1 e1 u2 e2).1 (unionS u1 e1 u2 e2).2 n ↔ memS u1 e1 n ∨ memS u2 e2 n) ∧ (unionS u1 e1 u2 e2).2.length ≤ e1.length + e2.length := by
  have a := h1.lo; have b := h1.up; have c := h2.lo; have d := h2.up
  obtain ⟨x, y, z⟩ := foldZ_spec (unionZ (e1 ++ e2)) (if u1 < u2 then u2 else u1) (by split <;> omega) (by split <;> omega) (unionZ_sorted _) fun n hn => by
    rw [mem_unionZ, List.mem_append] at hn
    rcases hn with hn | hn
    · exact h1.mem_pos (Or.inr hn)
    · exact h2.mem_pos (Or.inr hn)
  refine ⟨x, fun n => (y n).trans ?_, Nat.le_trans z (Nat.le_trans (unionZ_length _) (by simp))⟩
  unfold memS
  rw [mem_unionZ, List.mem_append]
  by_cases hu : u1 < u2
  · rw [if_pos hu]
    constructor
    · rintro (h | h | h)
      · exact Or.inr (Or.inl h)
      · exact Or.inl (Or.inr h)
      · exact Or.inr (Or.inr h)
    · rintro ((h | h) | (h | h))
      · exact Or.inl ⟨h.1, by omega⟩
      · exact Or.inr (Or.inl h)
      · exact Or.inl h
      · exact Or.inr (Or.inr h)
  · rw [if_neg hu]
    constructor
    · rintro (h | h | h)
      · exact Or.inl (Or.inl h)
      · exact Or.inl (Or.inr h)
      · exact Or.inr (Or.inr h)
    · rintro ((h | h) | (h | h))
      · exact Or.inl h
      · exact Or.inr (Or.inl h)
      · exact Or.inl ⟨h.1, by omega⟩
      · exact Or.inr (Or.inr h)
/-- One number, as a span. -/
theorem memS_one {n : Int} (h0 : 1 ≤ n) : (∀ m, memS 0 [n] m ↔ m = n) := by
  have := h0
  intro m; unfold memS; rw [List.mem_singleton]; omega
/-- The numbers with one more. -/
theorem addS_spec {u : Int} {e : List Int} (h : OkS u e) {n : Int} (h0 : 1 ≤ n) (h1 : n ≤ 1048576) :
    OkS (unionS u e 0 [n]).1 (unionS u e 0 [n]).2 ∧ (∀ m, memS (unionS u e 0 [n]).1 (unionS u e 0 [n]).2 m ↔ memS u e m ∨ m = n) ∧ (unionS u e 0 [n]).2.length ≤ e.length + 1 := by
  have a := h.lo; have b := h.up
  have hu : (if u < 0 then 0 else u) = u := if_neg (by omega)
  obtain ⟨x, y, z⟩ := foldZ_spec (unionZ (e ++ [n])) u a b (unionZ_sorted _) fun m hm => by
    rw [mem_unionZ, List.mem_append, List.mem_singleton] at hm
    rcases hm with hm | hm
    · exact h.mem_pos (Or.inr hm)
    · omega
  unfold unionS
  rw [hu]
  refine ⟨x, fun m => (y m).trans ?_, Nat.le_trans z (Nat.le_trans (unionZ_length _) (by simp))⟩
  unfold memS
  rw [mem_unionZ, List.mem_append, List.mem_singleton]
  constructor
  · rintro (h | h | h)
    · exact Or.inl (Or.inl h)
    · exact Or.inl (Or.inr h)
    · exact Or.inr h
  · rintro ((h | h) | h)
    · exact Or.inl h
    · exact Or.inr (Or.inl h)
    · exact Or.inr (Or.inr h)
/-- How many numbers there are, and which one is the greatest: told by the numbers alone. -/
theorem topS {u : Int} {e : List Int} (h : OkS u e) (hne : e ≠ []) : ∃ t, e.getLast hne = t ∧ memS u e t ∧ ∀ n, memS u e n → n ≤ t := by
  refine ⟨_, rfl, Or.inr (List.getLast_mem hne), fun n hn => ?_⟩
  have hl := List.getLast_mem hne
  have hg := h.gap _ hl
  rcases hn with hn | hn
  · omega
  · obtain ⟨i, hi, e'⟩ := List.mem_iff_getElem.mp hn
    rw [List.getLast_eq_getElem]
    by_cases hlast : i = e.length - 1
    · subst hlast; rw [e']; exact Int.le_refl _
    · have := List.pairwise_iff_getElem.mp h.sort i (e.length - 1) hi (by omega) (by omega)
      rw [e'] at this; omega
end Go.Proofs.Ytejoofeigeoboaa
