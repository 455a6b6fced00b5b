import Derived.Test.YtloeealbggobjaaKeys
/- Of each of some how far: what tells two apart, one more, one less, the farther and the nearer of each. No program in sight. -/
namespace Go.Proofs.Ytloeealbggobjaa
set_option linter.unusedVariables false
section
variable {α β : Type}
/-- How an element is read, and made. -/
structure AtS (α : Type) where
  id : α → ByteArray
  n : α → Int
  of : ByteArray → Int → α
  id_of : ∀ a n, id (of a n) = a
  n_of : ∀ a m, n (of a m) = m
  of_eq : ∀ x, of (id x) (n x) = x
theorem AtS.ext (s : AtS α) {x y : α} (h1 : s.id x = s.id y) (h2 : s.n x = s.n y) : x = y := by
  rw [← s.of_eq x, ← s.of_eq y, h1, h2]
/-- How far one is. -/
def ofV (s : AtS α) (l : List α) (a : ByteArray) : Int := match getM s.id a l with | some x => s.n x | none => 0
/-- Rising, and each some way. -/
structure PV (s : AtS α) (l : List α) : Prop where
  ks : KS ltB s.id l
  pos : ∀ x ∈ l, 1 ≤ s.n x
/-- What may be. -/
structure OkV (s : AtS α) (l : List α) : Prop extends PV s l where
  right : ∀ x ∈ l, rightB (s.id x) = true
  le : ∀ x ∈ l, s.n x ≤ 1048576
variable {s : AtS α}
theorem PV.nil : PV s [] := ⟨KS.nil, by simp⟩
theorem OkV.nil : OkV s [] := ⟨PV.nil, by simp, by simp⟩
theorem ofV_nil (a : ByteArray) : ofV s [] a = 0 := rfl
theorem ofV_cons (x : α) (l : List α) (a : ByteArray) : ofV s (x :: l) a = if s.id x = a then s.n x else ofV s l a := by
  unfold ofV
  rw [getM]
  by_cases h : s.id x = a
  · rw [if_pos h, if_pos h]
  · rw [if_neg h, if_neg h]
theorem ofV_mem {l : List α} (h : PV s l) {x : α} (hx : x ∈ l) : ofV s l (s.id x) = s.n x := by
  unfold ofV
  rw [(getM_some toB h.ks (s.id x) x).mpr ⟨hx, rfl⟩]
theorem ofV_cases (l : List α) (a : ByteArray) : (∃ x ∈ l, s.id x = a ∧ ofV s l a = s.n x) ∨ ((∀ x ∈ l, s.id x ≠ a) ∧ ofV s l a = 0) := by
  unfold ofV
  cases hg : getM s.id a l with
  | none => exact Or.inr ⟨(getM_none a).mp hg, rfl⟩
  | some x =>
    obtain ⟨p, q⟩ := getM_mem a hg
    exact Or.inl ⟨x, p, q, rfl⟩
theorem PV.nonneg {l : List α} (h : PV s l) (a : ByteArray) : 0 ≤ ofV s l a := by
  rcases ofV_cases (s := s) l a with ⟨x, hx, _, e⟩ | ⟨_, e⟩
  · rw [e]; have := h.pos x hx; omega
  · rw [e]; exact Int.le_refl _
theorem OkV.le_of {l : List α} (h : OkV s l) (a : ByteArray) : ofV s l a ≤ 1048576 := by
  rcases ofV_cases (s := s) l a with ⟨x, hx, _, e⟩ | ⟨_, e⟩
  · rw [e]; exact h.le x hx
  · rw [e]; omega
theorem OkV.right_of {l : List α} (h : OkV s l) {a : ByteArray} (ha : 0 < ofV s l a) : rightB a = true := by
  rcases ofV_cases (s := s) l a with ⟨x, hx, e1, e⟩ | ⟨_, e⟩
  · rw [← e1]; exact h.right x hx
  · omega
theorem PV.pos_iff {l : List α} (h : PV s l) (a : ByteArray) : 0 < ofV s l a ↔ ∃ x ∈ l, s.id x = a := by
  rcases ofV_cases (s := s) l a with ⟨x, hx, e1, e⟩ | ⟨hn, e⟩
  · rw [e]; exact ⟨fun _ => ⟨x, hx, e1⟩, fun _ => by have := h.pos x hx; omega⟩
  · rw [e]; exact ⟨fun h => by omega, fun ⟨x, hx, e1⟩ => absurd e1 (hn x hx)⟩
/-- Two of them in which each is as far are one. -/
theorem PV.ext {a b : List α} (ha : PV s a) (hb : PV s b) (h : ∀ i, ofV s a i = ofV s b i) : a = b := by
  have key : ∀ {a b : List α}, PV s a → PV s b → (∀ i, ofV s a i = ofV s b i) → ∀ x, x ∈ a → x ∈ b := by
    intro a b ha hb h x hx
    have h1 := ofV_mem ha hx
    rw [h] at h1
    rcases ofV_cases (s := s) b (s.id x) with ⟨y, hy, e1, e⟩ | ⟨_, e⟩
    · rw [h1] at e
      rw [s.ext e1.symm e]; exact hy
    · rw [h1] at e; have := ha.pos x hx; omega
  exact KS.unique toB ha.ks hb.ks fun x => ⟨key ha hb h x, key hb ha (fun i => (h i).symm) x⟩
theorem PV.ext_iff {a b : List α} (ha : PV s a) (hb : PV s b) : a = b ↔ ∀ i, ofV s a i = ofV s b i := ⟨fun h i => by rw [h], PV.ext ha hb⟩
/-- Right, said by how far each is. -/
theorem OkV.of_PV {l : List α} (h : PV s l) (hr : ∀ a, 0 < ofV s l a → rightB a = true) (hl : ∀ a, ofV s l a ≤ 1048576) : OkV s l :=
  ⟨h, fun x hx => hr _ ((h.pos_iff _).mpr ⟨x, hx, rfl⟩), fun x hx => by rw [← ofV_mem h hx]; exact hl _⟩
/-- Each is within. -/
def within (s : AtS α) (t : AtS β) (a : List α) (b : List β) : Prop := ∀ i, ofV s a i ≤ ofV t b i
theorem within_iff {t : AtS β} {a : List α} {b : List β} (ha : PV s a) (hb : PV t b) : within s t a b ↔ ∀ x ∈ a, s.n x ≤ ofV t b (s.id x) := by
  constructor
  · intro h x hx
    have := h (s.id x)
    rwa [ofV_mem ha hx] at this
  · intro h i
    rcases ofV_cases (s := s) a i with ⟨x, hx, e1, e⟩ | ⟨_, e⟩
    · rw [e, ← e1]; exact h x hx
    · rw [e]; exact hb.nonneg i
/-- Without one. -/
theorem ofV_drop (a i : ByteArray) (l : List α) : ofV s (dropM s.id a l) i = if i = a then 0 else ofV s l i := by
  unfold ofV
  rw [getM_dropM]
  by_cases h : i = a
  · rw [if_pos h, if_pos h]
  · rw [if_neg h, if_neg h]
theorem PV.drop {l : List α} (h : PV s l) (a : ByteArray) : PV s (dropM s.id a l) := ⟨dropM_KS h.ks a, fun x hx => h.pos x ((mem_dropM _ _ _).mp hx).1⟩
theorem OkV.drop {l : List α} (h : OkV s l) (a : ByteArray) : OkV s (dropM s.id a l) := ⟨h.toPV.drop a, fun x hx => h.right x ((mem_dropM _ _ _).mp hx).1, fun x hx => h.le x ((mem_dropM _ _ _).mp hx).1⟩
/-- One is just so far. -/
def putV (s : AtS α) (l : List α) (a : ByteArray) (m : Int) : List α := if m < 1 then dropM s.id a l else putM ltB s.id (s.of a m) l
theorem putV_PV {l : List α} (h : PV s l) (a : ByteArray) (m : Int) : PV s (putV s l a m) := by
  unfold putV
  by_cases hm : m < 1
  · rw [if_pos hm]; exact h.drop a
  · rw [if_neg hm]
    refine ⟨putM_KS toB _ h.ks, fun x hx => ?_⟩
    rcases (mem_putM _ _ _).mp hx with e | ⟨hx, _⟩
    · rw [e, s.n_of]; omega
    · exact h.pos x hx
theorem ofV_put {l : List α} (h : PV s l) (a i : ByteArray) (m : Int) : ofV s (putV s l a m) i = if i = a then (if m < 1 then 0 else m) else ofV s l i := by
  unfold putV
  by_cases hm : m < 1
  · rw [if_pos hm, if_pos hm, ofV_drop]
  · rw [if_neg hm, if_neg hm]
    unfold ofV
    rw [getM_putM toB _ h.ks, s.id_of]
    by_cases e : i = a
    · rw [if_pos e, if_pos e]; exact s.n_of _ _
    · rw [if_neg e, if_neg e]
theorem putV_length (l : List α) (a : ByteArray) (m : Int) : (putV s l a m).length ≤ l.length + 1 := by
  unfold putV
  split
  · have := dropM_length (key := s.id) a l; omega
  · exact putM_length _ _
/-- One is so far at least. -/
def setV (s : AtS α) (l : List α) (a : ByteArray) (m : Int) : List α := if rightB a = true ∧ 1 ≤ m then putV s l a (max (ofV s l a) (min m 1048576)) else l
theorem ofV_set {l : List α} (h : PV s l) (a i : ByteArray) (m : Int) : ofV s (setV s l a m) i = if i = a ∧ rightB a = true ∧ 1 ≤ m then max (ofV s l a) (min m 1048576) else ofV s l i := by
  unfold setV
  by_cases hc : rightB a = true ∧ 1 ≤ m
  · rw [if_pos hc, ofV_put h]
    have := h.nonneg a
    by_cases e : i = a
    · rw [if_pos e, if_neg (show ¬ (max (ofV s l a) (min m 1048576) < 1) by omega), if_pos ⟨e, hc⟩]
    · rw [if_neg e, if_neg (fun h => e h.1)]
  · rw [if_neg hc, if_neg (fun h => hc h.2)]
theorem setV_PV {l : List α} (h : PV s l) (a : ByteArray) (m : Int) : PV s (setV s l a m) := by
  unfold setV
  split
  · exact putV_PV h _ _
  · exact h
theorem setV_ok {l : List α} (h : OkV s l) (a : ByteArray) (m : Int) : OkV s (setV s l a m) := by
  refine OkV.of_PV (setV_PV h.toPV a m) (fun i hi => ?_) fun i => ?_
  · rw [ofV_set h.toPV] at hi
    by_cases hc : i = a ∧ rightB a = true ∧ 1 ≤ m
    · rw [hc.1]; exact hc.2.1
    · rw [if_neg hc] at hi; exact h.right_of hi
  · rw [ofV_set h.toPV]
    have h1 := h.le_of a
    have h2 := h.le_of i
    split <;> omega
theorem setV_length (l : List α) (a : ByteArray) (m : Int) : (setV s l a m).length ≤ l.length + 1 := by
  unfold setV
  split
  · exact putV_length _ _ _
  · omega
/-- The farther of each: one behind the other. -/
def joinV (s : AtS α) (t : AtS β) : List α → List β → List α
  | out, [] => out
  | out, x :: b => joinV s t (putV s out (t.id x) (max (ofV s out (t.id x)) (t.n x))) b
theorem joinV_spec (s : AtS α) (t : AtS β) : ∀ (b : List β) (out : List α), PV s out → PV t b → PV s (joinV s t out b) ∧ (∀ i, ofV s (joinV s t out b) i = max (ofV s out i) (ofV t b i)) ∧ (joinV s t out b).length ≤ out.length + b.length
  | [], out, h, hb => by
    refine ⟨h, fun i => ?_, by simp [joinV]⟩
    have := h.nonneg i
    rw [ofV_nil, joinV]; omega
  | x :: b, out, h, hb => by
    have hx := hb.pos x (by simp)
    obtain ⟨p, q, r⟩ := joinV_spec s t b _ (putV_PV h (t.id x) (max (ofV s out (t.id x)) (t.n x))) ⟨hb.ks.tail, fun y hy => hb.pos y (by simp [hy])⟩
    rw [joinV]
    refine ⟨p, fun i => ?_, ?_⟩
    · rw [q, ofV_put h, ofV_cons]
      by_cases e : i = t.id x
      · have e0 : ofV t b i = 0 := by
          rcases ofV_cases (s := t) b i with ⟨y, hy, e1, _⟩ | ⟨_, e2⟩
          · have := hb.ks.head hy
            rw [e1, e] at this
            exact absurd this (toB.irrefl _)
          · exact e2
        rw [if_pos e, if_pos e.symm, e0, if_neg (by omega), e]; omega
      · rw [if_neg e, if_neg (fun h => e h.symm)]
    · have := putV_length (s := s) out (t.id x) (max (ofV s out (t.id x)) (t.n x))
      simp only [List.length_cons]; omega
/-- The nearer of each, in line. -/
def meetV (s : AtS α) (t : AtS β) (b : List β) : List α → List α
  | [] => []
  | x :: a => if min (s.n x) (ofV t b (s.id x)) > 0 then s.of (s.id x) (min (s.n x) (ofV t b (s.id x))) :: meetV s t b a else meetV s t b a
theorem meetV_mem (s : AtS α) (t : AtS β) (b : List β) : ∀ (a : List α) (y : α), y ∈ meetV s t b a → ∃ x ∈ a, s.id y = s.id x ∧ s.n y = min (s.n x) (ofV t b (s.id x)) ∧ 0 < s.n y
  | [], y, h => by simp [meetV] at h
  | x :: a, y, h => by
    rw [meetV] at h
    by_cases hc : min (s.n x) (ofV t b (s.id x)) > 0
    · rw [if_pos hc] at h
      rcases List.mem_cons.mp h with e | h
      · exact ⟨x, by simp, by rw [e, s.id_of], by rw [e, s.n_of], by rw [e, s.n_of]; exact hc⟩
      · obtain ⟨z, hz, r⟩ := meetV_mem s t b a y h
        exact ⟨z, by simp [hz], r⟩
    · rw [if_neg hc] at h
      obtain ⟨z, hz, r⟩ := meetV_mem s t b a y h
      exact ⟨z, by simp [hz], r⟩
theorem meetV_spec (s : AtS α) (t : AtS β) {b : List β} (hb : PV t b) : ∀ (a : List α), PV s a → PV s (meetV s t b a) ∧ (∀ i, ofV s (meetV s t b a) i = min (ofV s a i) (ofV t b i)) ∧ (meetV s t b a).length ≤ a.length
  | [], h => by
    refine ⟨PV.nil, fun i => ?_, by simp [meetV]⟩
    have := hb.nonneg i
    rw [meetV, ofV_nil]; omega
  | x :: a, h => by
    have hx := h.pos x (by simp)
    obtain ⟨p, q, r⟩ := meetV_spec s t hb a ⟨h.ks.tail, fun y hy => h.pos y (by simp [hy])⟩
    have e0 : ofV s a (s.id x) = 0 := by
      rcases ofV_cases (s := s) a (s.id x) with ⟨y, hy, e1, _⟩ | ⟨_, e2⟩
      · have := h.ks.head hy
        rw [e1] at this
        exact absurd this (toB.irrefl _)
      · exact e2
    have hbn := hb.nonneg (s.id x)
    rw [meetV]
    by_cases hc : min (s.n x) (ofV t b (s.id x)) > 0
    · rw [if_pos hc]
      refine ⟨⟨List.pairwise_cons.mpr ⟨fun y hy => ?_, p.ks⟩, fun y hy => ?_⟩, fun i => ?_, by simp only [List.length_cons]; omega⟩
      · obtain ⟨z, hz, e, _⟩ := meetV_mem s t b a y hy
        rw [s.id_of, e]; exact h.ks.head hz
      · rcases List.mem_cons.mp hy with e | hy
        · rw [e, s.n_of]; omega
        · exact p.pos y hy
      · rw [ofV_cons, ofV_cons, s.id_of, s.n_of, q]
        by_cases e : s.id x = i
        · rw [if_pos e, if_pos e, e]
        · rw [if_neg e, if_neg e]
    · rw [if_neg hc]
      refine ⟨p, fun i => ?_, by simp only [List.length_cons]; omega⟩
      rw [q, ofV_cons]
      by_cases e : s.id x = i
      · rw [if_pos e, ← e, e0]; omega
      · rw [if_neg e]
/-- The nearer of each, one put behind the other. -/
def meetP (s : AtS α) (t : AtS β) (b : List β) : List α → List α → List α
  | out, [] => out
  | out, x :: a => meetP s t b (putV s out (s.id x) (min (s.n x) (ofV t b (s.id x)))) a
theorem meetP_spec (s : AtS α) (t : AtS β) {b : List β} (hb : PV t b) : ∀ (a : List α) (out : List α), PV s out → PV s a → (∀ x ∈ a, ofV s out (s.id x) = 0) → PV s (meetP s t b out a) ∧ (∀ i, ofV s (meetP s t b out a) i = max (ofV s out i) (min (ofV s a i) (ofV t b i))) ∧ (meetP s t b out a).length ≤ out.length + a.length
  | [], out, ho, h, h0 => by
    refine ⟨ho, fun i => ?_, by simp [meetP]⟩
    have := hb.nonneg i
    have := ho.nonneg i
    rw [meetP, ofV_nil]; omega
  | x :: a, out, ho, h, h0 => by
    have hx := h.pos x (by simp)
    have hbn := hb.nonneg (s.id x)
    have e0 := h0 x (by simp)
    obtain ⟨p, q, r⟩ := meetP_spec s t hb a _ (putV_PV ho (s.id x) (min (s.n x) (ofV t b (s.id x)))) ⟨h.ks.tail, fun y hy => h.pos y (by simp [hy])⟩ (fun y hy => by
      have hne : s.id y ≠ s.id x := by
        intro e
        have := h.ks.head hy
        rw [e] at this
        exact toB.irrefl _ this
      rw [ofV_put ho, if_neg hne]
      exact h0 y (by simp [hy]))
    rw [meetP]
    refine ⟨p, fun i => ?_, ?_⟩
    · rw [q, ofV_put ho, ofV_cons]
      by_cases e : i = s.id x
      · have e1 : ofV s a i = 0 := by
          rcases ofV_cases (s := s) a i with ⟨y, hy, e1, _⟩ | ⟨_, e2⟩
          · have := h.ks.head hy
            rw [e1, e] at this
            exact absurd this (toB.irrefl _)
          · exact e2
        rw [if_pos e, if_pos e.symm, e1, e, e0]
        split <;> omega
      · rw [if_neg e, if_neg (fun h => e h.symm)]
    · have := putV_length (s := s) out (s.id x) (min (s.n x) (ofV t b (s.id x)))
      simp only [List.length_cons]; omega
/-- The same in other words. -/
def convV (s : AtS α) (t : AtS β) (l : List α) : List β := l.map fun x => t.of (s.id x) (s.n x)
theorem ofV_conv (s : AtS α) (t : AtS β) (i : ByteArray) : ∀ l : List α, ofV t (convV s t l) i = ofV s l i
  | [] => rfl
  | x :: l => by
    have := ofV_conv s t i l
    unfold convV at this ⊢
    rw [List.map_cons, ofV_cons, ofV_cons, t.id_of, t.n_of, this]
theorem convV_PV (s : AtS α) (t : AtS β) {l : List α} (h : PV s l) : PV t (convV s t l) := by
  refine ⟨?_, fun y hy => ?_⟩
  · unfold KS convV
    rw [List.pairwise_map]
    exact h.ks.imp fun {x y} hxy => by rw [t.id_of, t.id_of]; exact hxy
  · obtain ⟨x, hx, e⟩ := List.mem_map.mp hy
    rw [← e, t.n_of]; exact h.pos x hx
theorem convV_ok (s : AtS α) (t : AtS β) {l : List α} (h : OkV s l) : OkV t (convV s t l) := by
  refine OkV.of_PV (convV_PV s t h.toPV) (fun i hi => ?_) fun i => ?_
  · rw [ofV_conv] at hi; exact h.right_of hi
  · rw [ofV_conv]; exact h.le_of i
theorem convV_length (s : AtS α) (t : AtS β) (l : List α) : (convV s t l).length = l.length := by simp [convV]
theorem convV_back (s : AtS α) (t : AtS β) (l : List α) : convV t s (convV s t l) = l := by
  unfold convV
  rw [List.map_map]
  refine Eq.trans (List.map_congr_left fun x _ => ?_) (List.map_id l)
  show s.of (t.id (t.of (s.id x) (s.n x))) (t.n (t.of (s.id x) (s.n x))) = x
  rw [t.id_of, t.n_of, s.of_eq]
def afterB : Option ByteArray → ByteArray → Bool
  | none, _ => true
  | some a, b => decide (cmpB a b < 0)
/-- What may be, asked of any list: in line behind one. -/
def rightVB (s : AtS α) : Option ByteArray → List α → Bool
  | _, [] => true
  | p, x :: l => rightB (s.id x) && decide (1 ≤ s.n x) && decide (s.n x ≤ 1048576) && afterB p (s.id x) && rightVB s (some (s.id x)) l
theorem rightVB_ok : ∀ (l : List α) (p : Option ByteArray), OkV s l → (∀ a, p = some a → ∀ x ∈ l, ltB a (s.id x)) → rightVB s p l = true
  | [], _, _, _ => rfl
  | x :: l, p, h, hp => by
    have h1 : OkV s l := ⟨⟨h.ks.tail, fun y hy => h.pos y (by simp [hy])⟩, fun y hy => h.right y (by simp [hy]), fun y hy => h.le y (by simp [hy])⟩
    have h2 : afterB p (s.id x) = true := by
      cases p with
      | none => rfl
      | some a => exact decide_eq_true (hp a rfl x (by simp))
    rw [rightVB, h.right x (by simp), decide_eq_true (h.pos x (by simp)), decide_eq_true (h.le x (by simp)), h2, rightVB_ok l (some (s.id x)) h1 fun a ha y hy => by cases ha; exact h.ks.head hy]
    rfl
theorem rightVB_conv (s : AtS α) (t : AtS β) : ∀ (l : List α) (p : Option ByteArray), rightVB t p (convV s t l) = rightVB s p l
  | [], _ => rfl
  | x :: l, p => by
    have := rightVB_conv s t l (some (s.id x))
    unfold convV at this ⊢
    rw [List.map_cons, rightVB, rightVB, t.id_of, t.n_of, this]
end
end Go.Proofs.Ytloeealbggobjaa
