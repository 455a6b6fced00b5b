import Derived.Test.YtkmhanpamdgnjaaWMore
/- A state of a slice of bytes and two numbers that a call made itself: it stays what it is whatever is turned beside it. No program in sight. -/
namespace Go.Proofs.Ytkmhanpamdgnjaa
open Go.RowKit Go.Proofs.YtkmhanpamdgnjaaW.PrintWords Go.Proofs.YtkmhanpamdgnjaaW.PrintWords.Kd
set_option linter.unusedVariables false
/-- The world with its first g blocks only. -/
def cutW (W : World) (g : Nat) : World := { W with heap := W.heap.extract 0 g }
theorem cutW_size {W : World} {g : Nat} (h : g ≤ W.heap.size) : (cutW W g).heap.size = g := by simp [cutW]; omega
theorem cutW_get {W : World} {g k : Nat} (h : k < g) : (cutW W g).heap[k]? = W.heap[k]? := by
  simp only [cutW, Array.getElem?_extract]
  rcases Nat.lt_or_ge k W.heap.size with h1 | h1
  · rw [if_pos (by omega), Nat.zero_add]
  · rw [if_neg (by omega), Array.getElem?_eq_none h1]
theorem cutW_below {W : World} {g : Nat} (h : g ≤ W.heap.size) : Below (cutW W g).heap.size (cutW W g) W :=
  ⟨rfl, rfl, rfl, by rw [cutW_size h]; exact h, fun k hk => by rw [cutW_size h] at hk; rw [cutW_get hk]⟩
theorem cutW_of_below {W1 W : World} {g : Nat} (hb : Below W1.heap.size W1 W) (h1 : W1.heap.size ≤ g) (h : g ≤ W.heap.size) : Below W1.heap.size W1 (cutW W g) :=
  ⟨hb.os, hb.tape, hb.output, by rw [cutW_size h]; exact h1, fun k hk => by rw [cutW_get (by omega)]; exact hb.block k hk⟩
/-- A state of type t: bytes l, where it is, what is wrong; the bytes lie below it. -/
def RD (t : TypeId) (W : World) (g : Nat) (l : List Int) (a e : Int) : Prop :=
  ∃ A c, W.heap[g]? = some (.cells #[.slice A l.length (l.length + c), .int .i64 a, .int .i64 e] t (0, 0)) ∧ Kd.C (Kd.int .u8) (cutW W g) A l.length l
variable {t t2 : TypeId} {W W' : World} {g g2 : Nat} {l l2 : List Int} {a e a2 e2 : Int}
theorem RD.lt (h : RD t W g l a e) : g < W.heap.size := by
  obtain ⟨A, c, hg, -⟩ := h
  exact blk_lt hg
theorem RD.of {w1 : World} {A : Option Addr} {c : Nat} (hg : W.heap[g]? = some (.cells #[.slice A l.length (l.length + c), .int .i64 a, .int .i64 e] t (0, 0))) (hge : w1.heap.size ≤ g) (hc : Kd.C (Kd.int .u8) w1 A l.length l) (hb : Below w1.heap.size w1 W) : RD t W g l a e :=
  ⟨A, c, hg, Kd.C_below hc (cutW_of_below hb hge (Nat.le_of_lt (blk_lt hg)))⟩
theorem RD.below (h : RD t W g l a e) (hb : Below W.heap.size W W') : RD t W' g l a e := by
  have hlt := h.lt
  obtain ⟨A, c, hg, hc⟩ := h
  refine RD.of (by rw [hb.block g hlt]; exact hg) (by rw [cutW_size (Nat.le_of_lt hlt)]; exact Nat.le_refl _) hc ?_
  exact (cutW_below (Nat.le_of_lt hlt)).trans ⟨hb.os, hb.tape, hb.output, hb.size, fun k hk => hb.block k (by rw [cutW_size (Nat.le_of_lt hlt)] at hk; omega)⟩
/-- No byte lies in a state's block. -/
theorem RD.apart {w : World} {A : Option Addr} {n : Nat} {xs : List Int} (h : RD t W g l a e) (hc : Kd.C (Kd.int .u8) w A n xs) (hw : ∀ k, k < w.heap.size → k = g → w.heap[k]? = W.heap[k]?) : ∀ ad, A = some ad → 0 < n → ad.block ≠ g := by
  intro ad ha hn hg
  obtain ⟨A1, c, hb, -⟩ := h
  obtain ⟨-, -, hr⟩ := Kd.reads_of_C (enc := Value.int .u8) (d := (0 : Int)) (h1 := fun _ => rfl) hc
  obtain ⟨ad', e', hcell⟩ := hr hn
  subst ha
  obtain rfl := Option.some.inj e'
  have h0 : w.cell? ad = some (Value.int .u8 (xs.getD 0 0)) := by simpa [Addr.add] using hcell 0 hn
  have hlt : ad.block < w.heap.size := by
    rcases Nat.lt_or_ge ad.block w.heap.size with h | h
    · exact h
    · exfalso
      rw [World.cell?, Array.getElem?_eq_none h] at h0
      cases h0
  have h2 := hw _ hlt hg
  rw [World.cell?, h2, hg, hb] at h0
  dsimp only at h0
  split at h0
  · cases h0
  · generalize ad.off = j at h0
    match j with
    | 0 => simp at h0
    | 1 => simp at h0
    | 2 => simp at h0
    | j + 3 => simp at h0
/-- Bytes stay while a state is turned. -/
theorem RD.C_keep {A : Option Addr} {n : Nat} {xs : List Int} (h : RD t W g l a e) (hk : KeepBut W W' g none) (hc : Kd.C (Kd.int .u8) W A n xs) : Kd.C (Kd.int .u8) W' A n xs :=
  Kd.C_keep (0 : Int) hc hk (h.apart hc (fun _ _ _ => rfl))
/-- Another state stays, too. -/
theorem RD.other (h : RD t W g l a e) (h2 : RD t2 W g2 l2 a2 e2) (hk : KeepBut W W' g none) (hne : g2 ≠ g) : RD t2 W' g2 l2 a2 e2 := by
  have hlt := h2.lt
  obtain ⟨A, c, hg, hc⟩ := h2
  have hlt' := Nat.lt_of_lt_of_le hlt hk.1
  refine ⟨A, c, by rw [hk.2 g2 hlt hne (by simp)]; exact hg, ?_⟩
  have hk2 : KeepBut (cutW W g2) (cutW W' g2) g none := ⟨by rw [cutW_size (Nat.le_of_lt hlt), cutW_size (Nat.le_of_lt hlt')]; exact Nat.le_refl _, fun i hi hg hr => by
    rw [cutW_size (Nat.le_of_lt hlt)] at hi
    rw [cutW_get hi, cutW_get hi]
    exact hk.2 i (by omega) hg hr⟩
  refine Kd.C_keep (0 : Int) hc hk2 (h.apart hc (fun k hk _ => ?_))
  rw [cutW_size (Nat.le_of_lt hlt)] at hk
  exact cutW_get hk
/-- What a call's contract over the base 'cutW W g' says of the caller's base. -/
theorem RD.base {w0 : World} (h : RD t W g l a e) (hge : w0.heap.size ≤ g) (hB : Below w0.heap.size w0 W) (hb : Below (cutW W g).heap.size (cutW W g) W') (hk : KeepBut W W' g none) : Below w0.heap.size w0 W' := by
  have hlt := h.lt
  refine ⟨hb.os.trans hB.os, hb.tape.trans hB.tape, hb.output.trans hB.output, Nat.le_trans hB.size hk.1, fun k hk' => ?_⟩
  rw [hb.block k (by rw [cutW_size (Nat.le_of_lt hlt)]; omega), cutW_get (by omega)]
  exact hB.block k hk'
/-- A store into a block behind a state leaves it. -/
theorem RD.far (h : RD t W g l a e) {g' : Nat} (hne : g < g') (i : Nat) (v : Value) : RD t (W.setCell ⟨g', i, none⟩ v) g l a e := by
  have hlt := h.lt
  obtain ⟨A, c, hg, hc⟩ := h
  have hs : (W.setCell ⟨g', i, none⟩ v).heap.size = W.heap.size := by simp [World.setCell]
  refine ⟨A, c, (Below.heap_setCell W ⟨g', i, none⟩ v g (by simp; omega)).trans hg, Kd.C_below hc ⟨rfl, rfl, rfl, ?_, fun k hk => ?_⟩⟩
  · rw [cutW_size (Nat.le_of_lt hlt), cutW_size (by rw [hs]; omega)]
    exact Nat.le_refl _
  · rw [cutW_size (Nat.le_of_lt hlt)] at hk
    rw [cutW_get hk, cutW_get hk]
    exact Below.heap_setCell W ⟨g', i, none⟩ v k (by simp; omega)
/-- What is so while a state is taken from and a block of one's own is filled: g the state, gr and gx two blocks made since w. -/
def TK (t T : TypeId) (w W : World) (g gr gx : Nat) (l : List Int) (a e : Int) (z cs : Array Value) : Prop :=
  RD t W g l a e ∧ W.heap[gr]? = some (.cells z T (0, 0)) ∧ W.heap[gx]? = some (.cells cs T (0, 0)) ∧ KeepBut w W g none ∧ (∀ w0 : World, w0.heap.size ≤ g → Below w0.heap.size w0 w → Below w0.heap.size w0 W) ∧ g < w.heap.size ∧ w.heap.size ≤ gr ∧ w.heap.size ≤ gx ∧ gr ≠ gx
variable {T : TypeId} {w : World} {gr gx : Nat} {z cs : Array Value}
theorem TK.call (h : TK t T w W g gr gx l a e z cs) {a' e' : Int} (hi : RD t W' g l a' e') (hb : ∀ w0 : World, w0.heap.size ≤ g → Below w0.heap.size w0 W → Below w0.heap.size w0 W') (hk : KeepBut W W' g none) : TK t T w W' g gr gx l a' e' z cs := by
  obtain ⟨h1, h2, h3, h4, h5, h6, h7, h8, h9⟩ := h
  exact ⟨hi, hk.blk h2 (by omega) (by simp), hk.blk h3 (by omega) (by simp), h4.trans hk (.inl rfl), fun w0 hg hB => hb w0 hg (h5 w0 hg hB), h6, h7, h8, h9⟩
theorem TK.below (h : TK t T w W g gr gx l a e z cs) (hb : Below W.heap.size W W') : TK t T w W' g gr gx l a e z cs := by
  obtain ⟨h1, h2, h3, h4, h5, h6, h7, h8, h9⟩ := h
  refine ⟨h1.below hb, (hb.block _ (blk_lt h2)).trans h2, (hb.block _ (blk_lt h3)).trans h3, h4.trans (KeepBut.of_below hb g none) (.inl rfl), fun w0 hg hB => ?_, h6, h7, h8, h9⟩
  have := h5 w0 hg hB
  exact below_step this hb
theorem TK.set (h : TK t T w W g gr gx l a e z cs) (i : Nat) (v : Value) : TK t T w (W.setCell ⟨gx, i, none⟩ v) g gr gx l a e z (cs.setIfInBounds i v) := by
  obtain ⟨h1, h2, h3, h4, h5, h6, h7, h8, h9⟩ := h
  exact ⟨h1.far (by omega) i v, blk_far h2 h9 v, blk_set h3 i v, keep_far h4 h8 v, fun w0 hg hB => below_set (h5 w0 hg hB) (by omega), h6, h7, h8, h9⟩
theorem TK.setr (h : TK t T w W g gr gx l a e z cs) (i : Nat) (v : Value) : TK t T w (W.setCell ⟨gr, i, none⟩ v) g gr gx l a e (z.setIfInBounds i v) cs := by
  obtain ⟨h1, h2, h3, h4, h5, h6, h7, h8, h9⟩ := h
  exact ⟨h1.far (by omega) i v, blk_set h2 i v, blk_far h3 (Ne.symm h9) v, keep_far h4 h7 v, fun w0 hg hB => below_set (h5 w0 hg hB) (by omega), h6, h7, h8, h9⟩
end Go.Proofs.Ytkmhanpamdgnjaa
