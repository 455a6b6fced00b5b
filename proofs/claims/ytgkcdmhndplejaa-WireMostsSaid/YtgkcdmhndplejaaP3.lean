-- Written by a program of this session (wip/pp.py over the kit's printer, with our own texts put in).
import Derived.Test.YtgkcdmhndplejaaP0
import Derived.Test.YtgkcdmhndplejaaP1
import Derived.Test.YtgkcdmhndplejaaP2
namespace Go.Proofs.Ytgkcdmhndplejaa.P
open Go.RowKit Go.Proofs.YtgkcdmhndplejaaW.PrintWords Go.Proofs.YtgkcdmhndplejaaW.PrintLast Go.Proofs.YtgkcdmhndplejaaW.PrintMore
attribute [local go_sem] max2_int min2_int max_two min_two max_three min_three max_four min_four   -- for this text's walks alone
set_option linter.unusedVariables false
set_option linter.unusedSimpArgs false

/-- A state of type 28 at block g of W; what its slices lead to came in by w0. -/
def IsS28 (w0 W : World) (g : Nat) (f0 : List Int) (f1 : Int) (f2 : Int) : Prop := ∃ A0 c0, W.heap[g]? = some (.cells #[.slice A0 f0.length (f0.length + c0), .int .i64 f1, .int .i64 f2] 28 (0, 0)) ∧ w0.heap.size ≤ g ∧ Kd.C (Kd.int .u8) w0 A0 f0.length f0
theorem IsS28.grown {w0 W : World} {g : Nat} {f0 : List Int} {f1 : Int} {f2 : Int} {W1 : World} {row : Option Nat} (h : IsS28 w0 W g f0 f1 f2) (hw : W.grownBy W1 row) (hne : some g ≠ row) : IsS28 w0 W1 g f0 f1 f2 := by
 obtain ⟨A0, c0, hb, hg, hr0⟩ := h
 exact ⟨A0, c0, blk_grown hb hw hne, hg, hr0⟩
theorem IsS28.own_neN {w0 W : World} {g : Nat} {f0 : List Int} {f1 : Int} {f2 : Int} {α : Type} {d : Kd α} {e : Nat} {base : Nat} {ok : Nat → Prop} {v : Value} {xs : List α} (h : IsS28 w0 W g f0 f1 f2) (ho : Kd.N d e W base ok v xs) (ht : e ≠ 28) : some g ≠ v.ownBlock := by
 obtain ⟨A0, c0, hb, hg, hr0⟩ := h
 exact Kd.N_ne ho hb ht
theorem IsS28.fresh {w0 W : World} {g : Nat} {f0 : List Int} {f1 : Int} {f2 : Int} (h : IsS28 w0 W g f0 f1 f2) : ∀ k, W.heap.size ≤ k → k ≠ g := by
 obtain ⟨A0, c0, hb, hg, hr0⟩ := h
 exact Kd.freshB hb
theorem IsS28.kept {w0 W : World} {g : Nat} {f0 : List Int} {f1 : Int} {f2 : Int} {W1 : World} {S : Nat → Prop} (h : IsS28 w0 W g f0 f1 f2) (hk : Kept W W1 S) (hne : ¬ S g) : IsS28 w0 W1 g f0 f1 f2 := by
 obtain ⟨A0, c0, hb, hg, hr0⟩ := h
 exact ⟨A0, c0, blk_kept hb hk hne, hg, hr0⟩
theorem IsS28.below {w0 W : World} {g : Nat} {f0 : List Int} {f1 : Int} {f2 : Int} {W1 : World} (h : IsS28 w0 W g f0 f1 f2) (hw : Below W.heap.size W W1) : IsS28 w0 W1 g f0 f1 f2 := h.grown (grown_of_below hw none) (by simp)
theorem IsS28.alloc {w0 W : World} {g : Nat} {f0 : List Int} {f1 : Int} {f2 : Int} (h : IsS28 w0 W g f0 f1 f2) (o : Obj) : IsS28 w0 (W.alloc o) g f0 f1 f2 := h.below (below_alloc (Below.refl _ _) o)
theorem IsS28.drewN {w0 W : World} {g : Nat} {f0 : List Int} {f1 : Int} {f2 : Int} (h : IsS28 w0 W g f0 f1 f2) (m : Nat) : IsS28 w0 (W.drewN m) g f0 f1 f2 := h
theorem IsS28.drew {w0 W : World} {g : Nat} {f0 : List Int} {f1 : Int} {f2 : Int} (h : IsS28 w0 W g f0 f1 f2) : IsS28 w0 W.drew g f0 f1 f2 := h
theorem IsS28.at_ {w0 W : World} {g : Nat} {f0 : List Int} {f1 : Int} {f2 : Int} {w' : World} {m : Nat} (hq : W.drewN m = w') (h : IsS28 w0 W g f0 f1 f2) : IsS28 w0 w' g f0 f1 f2 := by subst hq; exact IsS28.drewN h m
theorem IsS28.apart {w0 W : World} {g : Nat} {f0 : List Int} {f1 : Int} {f2 : Int} {α : Type} {d : Kd α} {e : Nat} {base : Nat} {ok : Nat → Prop} {v : Value} {xs : List α} (h : IsS28 w0 W g f0 f1 f2) (ho : d.R e W base ok v xs) (ht : ∀ q, q ∈ e :: d.E → q ≠ 28) : d.R e W base (fun k => ok k ∧ k ≠ g) v xs := by
 obtain ⟨A0, c0, hb, hg, hr0⟩ := h
 exact Kd.R_types ho hb ht
theorem IsS28.own_ne {w0 W : World} {g : Nat} {f0 : List Int} {f1 : Int} {f2 : Int} {α : Type} {d : Kd α} {e : Nat} {base : Nat} {ok : Nat → Prop} {v : Value} {xs : List α} (h : IsS28 w0 W g f0 f1 f2) (ho : d.R e W base ok v xs) (ht : e ≠ 28) : some g ≠ v.ownBlock := by
 obtain ⟨A0, c0, hb, hg, hr0⟩ := h
 exact Kd.R_ne ho hb ht
theorem IsS28.apartQ {w0 W : World} {g : Nat} {f0 : List Int} {f1 : Int} {f2 : Int} {α : Type} {d : Kd α} {e : Nat} {base : Nat} {ok : Nat → Prop} {v : Value} {xs : List α} (h : IsS28 w0 W g f0 f1 f2) (ho : d.Q e W base ok v xs) (ht : ∀ q, q ∈ e :: d.E → q ≠ 28) : d.Q e W base (fun k => ok k ∧ k ≠ g) v xs := by
 obtain ⟨A0, c0, hb, hg, hr0⟩ := h
 exact Kd.Q_types ho hb ht
theorem IsS28.own_neQ {w0 W : World} {g : Nat} {f0 : List Int} {f1 : Int} {f2 : Int} {α : Type} {d : Kd α} {e : Nat} {base : Nat} {ok : Nat → Prop} {v : Value} {xs : List α} (h : IsS28 w0 W g f0 f1 f2) (ho : d.Q e W base ok v xs) (ht : e ≠ 28) : some g ≠ v.ownBlock := by
 obtain ⟨A0, c0, hb, hg, hr0⟩ := h
 exact Kd.Q_ne ho hb ht
theorem IsS28.apartS {w0 W : World} {g : Nat} {f0 : List Int} {f1 : Int} {f2 : Int} {α : Type} {d : Kd α} {e : Nat} {base : Nat} {ok : Nat → Prop} {v : Value} {xs : List α} (h : IsS28 w0 W g f0 f1 f2) (ho : d.S e W base ok v xs) (ht : ∀ q, q ∈ e :: d.E → q ≠ 28) : d.S e W base (fun k => ok k ∧ k ≠ g) v xs := by
 obtain ⟨A0, c0, hb, hg, hr0⟩ := h
 exact Kd.S_types ho hb ht
theorem IsS28.own_neS {w0 W : World} {g : Nat} {f0 : List Int} {f1 : Int} {f2 : Int} {α : Type} {d : Kd α} {e : Nat} {base : Nat} {ok : Nat → Prop} {v : Value} {xs : List α} (h : IsS28 w0 W g f0 f1 f2) (ho : d.S e W base ok v xs) (ht : e ≠ 28) : some g ≠ v.ownBlock := by
 obtain ⟨A0, c0, hb, hg, hr0⟩ := h
 exact Kd.S_ne ho hb ht
theorem IsS28.lt {w0 W : World} {g : Nat} {f0 : List Int} {f1 : Int} {f2 : Int} (h : IsS28 w0 W g f0 f1 f2) : g < W.heap.size := by
 obtain ⟨A0, c0, hb, hg, hr0⟩ := h
 exact blk_lt hb
theorem IsS28.ge {w0 W : World} {g : Nat} {f0 : List Int} {f1 : Int} {f2 : Int} (h : IsS28 w0 W g f0 f1 f2) : w0.heap.size ≤ g := by
 obtain ⟨A0, c0, hb, hg, hr0⟩ := h
 exact hg
theorem IsS28.ne_blk {w0 W : World} {g : Nat} {f0 : List Int} {f1 : Int} {f2 : Int} {a : Nat} {cs : Array Value} {t : TypeId} {fr : Nat × Nat} (h : IsS28 w0 W g f0 f1 f2) (hb2 : W.heap[a]? = some (.cells cs t fr)) (ht : t ≠ 28) : g ≠ a := by
 obtain ⟨A0, c0, hb, hg, hr0⟩ := h
 rintro rfl
 rw [hb] at hb2
 injection hb2 with hb2
 injection hb2 with _ ht2
 exact ht ht2.symm
theorem IsS28.far {w0 W : World} {g : Nat} {f0 : List Int} {f1 : Int} {f2 : Int} {p : Addr} (h : IsS28 w0 W g f0 f1 f2) (hne : g ≠ p.block) (u : Value) : IsS28 w0 (W.setCell p u) g f0 f1 f2 := by
 obtain ⟨A0, c0, hb, hg, hr0⟩ := h
 exact ⟨A0, c0, blk_far hb hne u, hg, hr0⟩
theorem cellS28_0 {W : World} {g : Nat} {A0 : Option Addr} {c0 : Nat} {f0 : List Int} {f1 : Int} {f2 : Int} (h : W.heap[g]? = some (.cells #[.slice A0 f0.length (f0.length + c0), .int .i64 f1, .int .i64 f2] 28 (0, 0))) : W.cell? ⟨g, 0, none⟩ = some (.slice A0 f0.length (f0.length + c0)) := (blk_cell h 0).trans rfl
theorem cellS28_1 {W : World} {g : Nat} {A0 : Option Addr} {c0 : Nat} {f0 : List Int} {f1 : Int} {f2 : Int} (h : W.heap[g]? = some (.cells #[.slice A0 f0.length (f0.length + c0), .int .i64 f1, .int .i64 f2] 28 (0, 0))) : W.cell? ⟨g, 1, none⟩ = some (.int .i64 f1) := (blk_cell h 1).trans rfl
theorem IsS28.set_1 {w0 W : World} {g : Nat} {f0 : List Int} {f1 : Int} {f2 : Int} (h : IsS28 w0 W g f0 f1 f2) (x : Int) : IsS28 w0 (W.setCell ⟨g, 1, none⟩ (.int .i64 x)) g f0 x f2 := by
 obtain ⟨A0, c0, hb, hg, hr0⟩ := h
 exact ⟨A0, c0, by simpa using blk_set hb 1 (.int .i64 x), hg, hr0⟩
theorem cellS28_2 {W : World} {g : Nat} {A0 : Option Addr} {c0 : Nat} {f0 : List Int} {f1 : Int} {f2 : Int} (h : W.heap[g]? = some (.cells #[.slice A0 f0.length (f0.length + c0), .int .i64 f1, .int .i64 f2] 28 (0, 0))) : W.cell? ⟨g, 2, none⟩ = some (.int .i64 f2) := (blk_cell h 2).trans rfl
theorem IsS28.set_2 {w0 W : World} {g : Nat} {f0 : List Int} {f1 : Int} {f2 : Int} (h : IsS28 w0 W g f0 f1 f2) (x : Int) : IsS28 w0 (W.setCell ⟨g, 2, none⟩ (.int .i64 x)) g f0 f1 x := by
 obtain ⟨A0, c0, hb, hg, hr0⟩ := h
 exact ⟨A0, c0, by simpa using blk_set hb 2 (.int .i64 x), hg, hr0⟩
theorem IsS28.new (w0 W : World) (A0 : Option Addr) (c0 : Nat) (f0 : List Int) (f1 : Int) (f2 : Int) (hB : Below w0.heap.size w0 W) (hr0 : Kd.C (Kd.int .u8) w0 A0 f0.length f0) : IsS28 w0 (W.alloc (.cells #[.slice A0 f0.length (f0.length + c0), .int .i64 f1, .int .i64 f2] 28)) W.heap.size f0 f1 f2 := ⟨A0, c0, by simpa using heap_alloc_new W _, hB.size, hr0⟩

/-! ### cenotaphref06_Reader_Num: function 14 -/
theorem zq14_0 {p_ : Prop} (h_ : p_ := by first | (with_reducible assumption) | assumption) : p_ := h_
theorem zq14_1 {p_ : Prop} (h_ : p_ := by first | rfl | (simp; done) | (simp [*]; done)) : p_ := h_
def cenotaphref06_Reader_Num.l0 : Nat → Int → Int → Int → Int → List Int → Int → Int → Option (Int × Int × Int)
 | 0, _, _, _, _, _, _, _ => none
 | k + 1, x1, x5, x6, x7, x1000, x1001, x1002 => if x7 < 10 then (if x7 = 9 then (some (0, x1001, 3)) else (if (wrap64 (x1001 + x7)) ≥ (x1000.length : Int) then (some (0, x1001, 2)) else (if 0 ≤ (wrap64 (x1001 + x7)) then (if (wrap64 (x1001 + x7)) < (x1000.length : Int) then (if (wrap64 (rd x1000 (wrap64 (x1001 + x7)))) ≥ 128 then (cenotaphref06_Reader_Num.l0 k x1 (wrap64 (x5 + (wrap64 ((Int.tmod (wrap64 (rd x1000 (wrap64 (x1001 + x7)))) 128) * x6)))) (wrap64 (x6 * 128)) (wrap64 (x7 + 1)) x1000 x1001 x1002) else (if (wrap64 (rd x1000 (wrap64 (x1001 + x7)))) = 0 then (if x7 > 0 then (some (0, x1001, 3)) else (if (wrap64 (x5 + (wrap64 ((Int.tmod (wrap64 (rd x1000 (wrap64 (x1001 + x7)))) 128) * x6)))) > x1 then (some (0, x1001, 3)) else (some (wrap64 (x5 + (wrap64 ((Int.tmod (wrap64 (rd x1000 (wrap64 (x1001 + x7)))) 128) * x6))), wrap64 ((wrap64 (x1001 + x7)) + 1), x1002)))) else (if (wrap64 (x5 + (wrap64 ((Int.tmod (wrap64 (rd x1000 (wrap64 (x1001 + x7)))) 128) * x6)))) > x1 then (some (0, x1001, 3)) else (some (wrap64 (x5 + (wrap64 ((Int.tmod (wrap64 (rd x1000 (wrap64 (x1001 + x7)))) 128) * x6))), wrap64 ((wrap64 (x1001 + x7)) + 1), x1002))))) else (none)) else (none)))) else (some (0, x1001, x1002))
def cenotaphref06_Reader_Num.f (k : Nat) (s0_0 : List Int) (s0_1 : Int) (s0_2 : Int) (a1 : Int) : Option (Int × Int × Int) := if s0_2 = 0 then (cenotaphref06_Reader_Num.l0 k a1 0 1 0 s0_0 s0_1 s0_2) else (some (0, s0_1, s0_2))
theorem cenotaphref06_Reader_Num.mono_l : ∀ k, (∀ y0 y1 y2 y3 y4 y5 y6, LeO (cenotaphref06_Reader_Num.l0 k y0 y1 y2 y3 y4 y5 y6) (cenotaphref06_Reader_Num.l0 (k + 1) y0 y1 y2 y3 y4 y5 y6))
 | 0 => fun _ _ _ _ _ _ _ r h => by simp [cenotaphref06_Reader_Num.l0] at h
 | k + 1 => by
  have ih0 := cenotaphref06_Reader_Num.mono_l k
  ·intro y0 y1 y2 y3 y4 y5 y6
   unfold cenotaphref06_Reader_Num.l0
   repeat' first
   | (with_reducible exact ih0 _ _ _ _ _ _ _)
   | (with_reducible exact LeO.refl _)
   | (with_reducible exact LeO.none _)
   | (with_reducible refine LeO.ite ?_ ?_)
   | (with_reducible refine LeO.bind ?_ (fun _ => ?_))
   | exact ih0 _ _ _ _ _ _ _
   | exact LeO.none _
   | refine LeO.ite ?_ ?_
   | refine LeO.bind ?_ (fun _ => ?_)
theorem cenotaphref06_Reader_Num.mono : ∀ a0 a1 a2 a3 k, LeO (cenotaphref06_Reader_Num.f k a0 a1 a2 a3) (cenotaphref06_Reader_Num.f (k + 1) a0 a1 a2 a3) := by
 intro a0 a1 a2 a3 k
 have ih0 := cenotaphref06_Reader_Num.mono_l k
 unfold cenotaphref06_Reader_Num.f
 repeat' first
   | (with_reducible exact ih0 _ _ _ _ _ _ _)
   | (with_reducible exact LeO.refl _)
   | (with_reducible exact LeO.none _)
   | (with_reducible refine LeO.ite ?_ ?_)
   | (with_reducible refine LeO.bind ?_ (fun _ => ?_))
   | exact ih0 _ _ _ _ _ _ _
   | exact LeO.none _
   | refine LeO.ite ?_ ?_
   | refine LeO.bind ?_ (fun _ => ?_)
set_option maxHeartbeats 8000000 in
set_option maxRecDepth 100000 in
theorem cenotaphref06_Reader_Num.calls (k : Nat) (g : Nat) (s0_0 : List Int) (s0_1 : Int) (s0_2 : Int) (a1 : Int) (r1 : Int) (r2 : Int) (r3 : Int) (w0 w : World) (hI : IsS28 w0 w g s0_0 s0_1 s0_2) (hB : Below w0.heap.size w0 w) (h : cenotaphref06_Reader_Num.f k s0_0 s0_1 s0_2 a1 = some (r1, r2, r3)) :
  Calls Try.prog 14 #[.pointer (some ⟨g, 0, none⟩), .int .i64 a1] w fun e w' => e = .returned (.int .i64 r1) ∧ IsS28 w0 w' g s0_0 r2 r3 ∧ Below w0.heap.size w0 w' ∧ KeepBut w w' g none := by
 have HI0 := Aside0.mk hI
 have HK := Aside0.mk (KeepBut.refl w g none)
 have HL := Aside0.mk hB.size
 clear hI
 have HW0 := Aside0.mk hB.size
 have HB := Aside0.mk hB
 clear hB
 have H : (if s0_2 = 0 then (cenotaphref06_Reader_Num.l0 k a1 0 1 0 s0_0 s0_1 s0_2) else (some (0, s0_1, s0_2))) = some (r1, r2, r3) := h
 clear h
 by_cases c3 : s0_2 = 0
 ·rw [if_pos c3] at H
  have c3b0 : (s0_2 == 0) = true := beq_iff_eq.mpr c3
  have c3b1 : (s0_2 != 0) = false := bne_eq_false_iff_eq.mpr c3
  clear c3
  have H' := Aside0.mk H
  clear H
  obtain ⟨ASz4_0, cSz4_0, HGz4, hgz4, HSz4_0⟩ := HI0.out
  have hcz4_0 := cellS28_0 HGz4
  have hcz4_1 := cellS28_1 HGz4
  have hcz4_2 := cellS28_2 HGz4
  have hfz4_1 := blk_frozen HGz4 1
  have hfz4_2 := blk_frozen HGz4 2
  clear HGz4 hgz4
  go_enter Try.func14, Try.ntmps14
  go_wp2
  repeat (go_quiet (fail); try go_wp2)
  go_loopg [5, 6, 7] k (fun kq v5 v6 v7 w' => ∃ (x5_1 : Int) (x6_1 : Int) (x7_1 : Int) (x1001_1 : Int) (x1002_1 : Int), v5 = .int .i64 x5_1 ∧ v6 = .int .i64 x6_1 ∧ v7 = .int .i64 x7_1 ∧ Aside0 (cenotaphref06_Reader_Num.l0 kq a1 x5_1 x6_1 x7_1 s0_0 x1001_1 x1002_1 = some (r1, r2, r3)) ∧ Aside0 (kq ≤ k) ∧ Aside0 (IsS28 w0 w' g s0_0 x1001_1 x1002_1) ∧ Aside0 (KeepBut w w' g none) ∧ Aside0 (Below w0.heap.size w0 w'))
  case atStart => exact ⟨(0), (1), (0), (s0_1), (s0_2), zq14_1, zq14_1, zq14_1, H', ⟨Nat.le_refl _⟩, ⟨by repeat (first | (with_reducible first | exact HI0.out | apply IsS28.alloc | apply IsS28.drewN | apply IsS28.drew | apply IsS28.set_1 | apply IsS28.set_2) | exact HI0.out)⟩, ⟨by repeat (first | (with_reducible first | exact HK.out | apply KeepBut.set_ | apply keep_drewN | apply keep_drew | apply keep_alloc) | exact HK.out)⟩, ⟨by repeat (first | (with_reducible first | exact HB.out | apply below_alloc | apply pw_below_drewN | apply below_drew1 | refine below_set ?_ (IsS28.ge HI0.out)) | exact HB.out)⟩⟩
  case round =>
   clear H'
   try clear c1
   try clear p2
   try clear c3
   try clear c3b0
   try clear c3b1
   try clear hcz4_0
   try clear hcz4_1
   try clear hcz4_2
   try clear hfz4_1
   try clear hfz4_2
   obtain ⟨x5_1, x6_1, x7_1, x1001_1, x1002_1, rfl, rfl, rfl, HA, HK1, HI0, HK, HB⟩ := hrel
   cases gk with
   | zero => exact absurd HA.out (by simp [cenotaphref06_Reader_Num.l0])
   | succ k1 =>
    have H := HA.out
    clear HA
    simp only [cenotaphref06_Reader_Num.l0] at H
    by_cases c5 : x7_1 < 10
    ·rw [if_pos c5] at H
     have c5b0 : decide (x7_1 < 10) = true := decide_eq_true c5
     clear c5
     by_cases c6 : x7_1 = 9
     ·rw [if_pos c6] at H
      have c6b0 : (x7_1 == 9) = true := beq_iff_eq.mpr c6
      have c6b1 : (x7_1 != 9) = false := bne_eq_false_iff_eq.mpr c6
      clear c6
      simp only [Option.some.injEq, Prod.mk.injEq] at H
      obtain ⟨rfl, rfl, rfl⟩ := H
      obtain ⟨ASz7_0, cSz7_0, HGz7, hgz7, HSz7_0⟩ := HI0.out
      have hcz7_0 := cellS28_0 HGz7
      have hcz7_1 := cellS28_1 HGz7
      have hcz7_2 := cellS28_2 HGz7
      have hfz7_1 := blk_frozen HGz7 1
      have hfz7_2 := blk_frozen HGz7 2
      clear HGz7 hgz7
      go_wp2
      repeat (go_quiet (fail); try go_wp2)
      go_ret
      exact ⟨by first | rfl | (simp [errW_none, errW_some] <;> rfl) | (simp [*, errW_none, errW_some] <;> rfl), by repeat (first | (with_reducible first | exact HI0.out | apply IsS28.alloc | apply IsS28.drewN | apply IsS28.drew | apply IsS28.set_1 | apply IsS28.set_2) | exact HI0.out), by repeat (first | (with_reducible first | exact HB.out | apply below_alloc | apply pw_below_drewN | apply below_drew1 | refine below_set ?_ (IsS28.ge HI0.out)) | exact HB.out), by repeat (first | (with_reducible first | exact HK.out | apply KeepBut.set_ | apply keep_drewN | apply keep_drew | apply keep_alloc) | exact HK.out)⟩
     ·rw [if_neg c6] at H
      have c6b0 : (x7_1 == 9) = false := beq_eq_false_iff_ne.mpr c6
      have c6b1 : (x7_1 != 9) = true := bne_iff_ne.mpr c6
      by_cases c8 : (wrap64 (x1001_1 + x7_1)) ≥ (s0_0.length : Int)
      ·rw [if_pos c8] at H
       have c8b0 : decide ((s0_0.length : Int) ≤ (wrap64 (x1001_1 + x7_1))) = true := decide_eq_true c8
       clear c8
       simp only [Option.some.injEq, Prod.mk.injEq] at H
       obtain ⟨rfl, rfl, rfl⟩ := H
       obtain ⟨ASz9_0, cSz9_0, HGz9, hgz9, HSz9_0⟩ := HI0.out
       have hcz9_0 := cellS28_0 HGz9
       have hcz9_1 := cellS28_1 HGz9
       have hcz9_2 := cellS28_2 HGz9
       have hfz9_1 := blk_frozen HGz9 1
       have hfz9_2 := blk_frozen HGz9 2
       clear HGz9 hgz9
       go_wp2
       repeat (go_quiet (fail); try go_wp2)
       go_ret
       exact ⟨by first | rfl | (simp [errW_none, errW_some] <;> rfl) | (simp [*, errW_none, errW_some] <;> rfl), by repeat (first | (with_reducible first | exact HI0.out | apply IsS28.alloc | apply IsS28.drewN | apply IsS28.drew | apply IsS28.set_1 | apply IsS28.set_2) | exact HI0.out), by repeat (first | (with_reducible first | exact HB.out | apply below_alloc | apply pw_below_drewN | apply below_drew1 | refine below_set ?_ (IsS28.ge HI0.out)) | exact HB.out), by repeat (first | (with_reducible first | exact HK.out | apply KeepBut.set_ | apply keep_drewN | apply keep_drew | apply keep_alloc) | exact HK.out)⟩
      ·rw [if_neg c8] at H
       have c8b0 : decide ((s0_0.length : Int) ≤ (wrap64 (x1001_1 + x7_1))) = false := decide_eq_false c8
       clear c8
       obtain ⟨ji10, hji10⟩ : ∃ j_ : Int, (wrap64 (x1001_1 + x7_1)) = j_ := ⟨_, rfl⟩
       replace H : (if 0 ≤ (ji10) then (if (ji10) < (s0_0.length : Int) then (if (wrap64 (rd s0_0 (ji10))) ≥ 128 then (cenotaphref06_Reader_Num.l0 k1 a1 (wrap64 (x5_1 + (wrap64 ((Int.tmod (wrap64 (rd s0_0 (ji10))) 128) * x6_1)))) (wrap64 (x6_1 * 128)) (wrap64 (x7_1 + 1)) s0_0 x1001_1 x1002_1) else (if (wrap64 (rd s0_0 (ji10))) = 0 then (if x7_1 > 0 then (some (0, x1001_1, 3)) else (if (wrap64 (x5_1 + (wrap64 ((Int.tmod (wrap64 (rd s0_0 (ji10))) 128) * x6_1)))) > a1 then (some (0, x1001_1, 3)) else (some (wrap64 (x5_1 + (wrap64 ((Int.tmod (wrap64 (rd s0_0 (ji10))) 128) * x6_1))), wrap64 ((ji10) + 1), x1002_1)))) else (if (wrap64 (x5_1 + (wrap64 ((Int.tmod (wrap64 (rd s0_0 (ji10))) 128) * x6_1)))) > a1 then (some (0, x1001_1, 3)) else (some (wrap64 (x5_1 + (wrap64 ((Int.tmod (wrap64 (rd s0_0 (ji10))) 128) * x6_1))), wrap64 ((ji10) + 1), x1002_1))))) else (none)) else (none)) = some (r1, r2, r3) := by first | (rw [hji10] at H; exact H) | (simp only [hji10] at H ⊢; exact H)
       (try rw [hji10] at c8b0)
       have hji10w : (IntKind.i64.wrap (x1001_1 + x7_1)) = ji10 := (i64_w _).trans hji10
       by_cases c11 : 0 ≤ (ji10)
       ·rw [if_pos c11] at H
        have c11b0 : decide (0 ≤ (ji10)) = true := decide_eq_true c11
        clear c11
        by_cases c12 : (ji10) < (s0_0.length : Int)
        ·rw [if_pos c12] at H
         have c12b0 : decide ((ji10) < (s0_0.length : Int)) = true := decide_eq_true c12
         clear c12
         by_cases c13 : (wrap64 (rd s0_0 (ji10))) ≥ 128
         ·rw [if_pos c13] at H
          have c13b0 : decide (128 ≤ (wrap64 (rd s0_0 (ji10)))) = true := decide_eq_true c13
          clear c13
          have H' := Aside0.mk H
          clear H
          obtain ⟨ASz14_0, cSz14_0, HGz14, hgz14, HSz14_0⟩ := HI0.out
          have hcz14_0 := cellS28_0 HGz14
          have hcz14_1 := cellS28_1 HGz14
          have hcz14_2 := cellS28_2 HGz14
          have hfz14_1 := blk_frozen HGz14 1
          have hfz14_2 := blk_frozen HGz14 2
          clear HGz14 hgz14
          have p130 : 0 ≤ ((ji10) : Int) := of_decide_eq_true zq14_0
          have q130 : (ji10) < (s0_0.length : Int) := of_decide_eq_true zq14_0
          obtain ⟨ad130, e130, hx130_0⟩ := Kd.at_int HSz14_0 (ji10) p130 q130
          cases e130
          replace hx130_0 := pw_cell_below HB.out hx130_0
          replace p130 := eq_true p130
          replace q130 := eq_true q130
          go_wp2
          repeat (go_quiet (fail); try go_wp2)
          go_roundg k1
          case measure => have := HK1.out; omega
          case rel => exact ⟨(wrap64 (x5_1 + (wrap64 ((Int.tmod (wrap64 (rd s0_0 (ji10))) 128) * x6_1)))), (wrap64 (x6_1 * 128)), (wrap64 (x7_1 + 1)), (x1001_1), (x1002_1), (by first | rfl | (simp; done) | (simp only [← hji10] <;> (first | rfl | simp)) | (simp [*]; done)), zq14_1, zq14_1, H', ⟨by have := HK1.out; omega⟩, ⟨by repeat (first | (with_reducible first | exact HI0.out | apply IsS28.alloc | apply IsS28.drewN | apply IsS28.drew | apply IsS28.set_1 | apply IsS28.set_2) | exact HI0.out)⟩, ⟨by repeat (first | (with_reducible first | exact HK.out | apply KeepBut.set_ | apply keep_drewN | apply keep_drew | apply keep_alloc) | exact HK.out)⟩, ⟨by repeat (first | (with_reducible first | exact HB.out | apply below_alloc | apply pw_below_drewN | apply below_drew1 | refine below_set ?_ (IsS28.ge HI0.out)) | exact HB.out)⟩⟩
         ·rw [if_neg c13] at H
          have c13b0 : decide (128 ≤ (wrap64 (rd s0_0 (ji10)))) = false := decide_eq_false c13
          clear c13
          by_cases c15 : (wrap64 (rd s0_0 (ji10))) = 0
          ·rw [if_pos c15] at H
           have c15b0 : ((wrap64 (rd s0_0 (ji10))) == 0) = true := beq_iff_eq.mpr c15
           have c15b1 : ((wrap64 (rd s0_0 (ji10))) != 0) = false := bne_eq_false_iff_eq.mpr c15
           clear c15
           by_cases c16 : x7_1 > 0
           ·rw [if_pos c16] at H
            have c16b0 : decide (0 < x7_1) = true := decide_eq_true c16
            clear c16
            simp only [Option.some.injEq, Prod.mk.injEq] at H
            obtain ⟨rfl, rfl, rfl⟩ := H
            obtain ⟨ASz17_0, cSz17_0, HGz17, hgz17, HSz17_0⟩ := HI0.out
            have hcz17_0 := cellS28_0 HGz17
            have hcz17_1 := cellS28_1 HGz17
            have hcz17_2 := cellS28_2 HGz17
            have hfz17_1 := blk_frozen HGz17 1
            have hfz17_2 := blk_frozen HGz17 2
            clear HGz17 hgz17
            have p130 : 0 ≤ ((ji10) : Int) := of_decide_eq_true zq14_0
            have q130 : (ji10) < (s0_0.length : Int) := of_decide_eq_true zq14_0
            obtain ⟨ad130, e130, hx130_0⟩ := Kd.at_int HSz17_0 (ji10) p130 q130
            cases e130
            replace hx130_0 := pw_cell_below HB.out hx130_0
            replace p130 := eq_true p130
            replace q130 := eq_true q130
            go_wp2
            repeat (go_quiet (fail); try go_wp2)
            go_ret
            exact ⟨by first | rfl | (simp [errW_none, errW_some] <;> rfl) | (simp only [← hji10]; first | rfl | (simp [errW_none, errW_some] <;> rfl)) | (simp [*, errW_none, errW_some] <;> rfl), by repeat (first | (with_reducible first | exact HI0.out | apply IsS28.alloc | apply IsS28.drewN | apply IsS28.drew | apply IsS28.set_1 | apply IsS28.set_2) | exact HI0.out), by repeat (first | (with_reducible first | exact HB.out | apply below_alloc | apply pw_below_drewN | apply below_drew1 | refine below_set ?_ (IsS28.ge HI0.out)) | exact HB.out), by repeat (first | (with_reducible first | exact HK.out | apply KeepBut.set_ | apply keep_drewN | apply keep_drew | apply keep_alloc) | exact HK.out)⟩
           ·rw [if_neg c16] at H
            have c16b0 : decide (0 < x7_1) = false := decide_eq_false c16
            clear c16
            by_cases c18 : (wrap64 (x5_1 + (wrap64 ((Int.tmod (wrap64 (rd s0_0 (ji10))) 128) * x6_1)))) > a1
            ·rw [if_pos c18] at H
             have c18b0 : decide (a1 < (wrap64 (x5_1 + (wrap64 ((Int.tmod (wrap64 (rd s0_0 (ji10))) 128) * x6_1))))) = true := decide_eq_true c18
             clear c18
             simp only [Option.some.injEq, Prod.mk.injEq] at H
             obtain ⟨rfl, rfl, rfl⟩ := H
             obtain ⟨ASz19_0, cSz19_0, HGz19, hgz19, HSz19_0⟩ := HI0.out
             have hcz19_0 := cellS28_0 HGz19
             have hcz19_1 := cellS28_1 HGz19
             have hcz19_2 := cellS28_2 HGz19
             have hfz19_1 := blk_frozen HGz19 1
             have hfz19_2 := blk_frozen HGz19 2
             clear HGz19 hgz19
             have p130 : 0 ≤ ((ji10) : Int) := of_decide_eq_true zq14_0
             have q130 : (ji10) < (s0_0.length : Int) := of_decide_eq_true zq14_0
             obtain ⟨ad130, e130, hx130_0⟩ := Kd.at_int HSz19_0 (ji10) p130 q130
             cases e130
             replace hx130_0 := pw_cell_below HB.out hx130_0
             replace p130 := eq_true p130
             replace q130 := eq_true q130
             go_wp2
             repeat (go_quiet (fail); try go_wp2)
             go_ret
             exact ⟨by first | rfl | (simp [errW_none, errW_some] <;> rfl) | (simp only [← hji10]; first | rfl | (simp [errW_none, errW_some] <;> rfl)) | (simp [*, errW_none, errW_some] <;> rfl), by repeat (first | (with_reducible first | exact HI0.out | apply IsS28.alloc | apply IsS28.drewN | apply IsS28.drew | apply IsS28.set_1 | apply IsS28.set_2) | exact HI0.out), by repeat (first | (with_reducible first | exact HB.out | apply below_alloc | apply pw_below_drewN | apply below_drew1 | refine below_set ?_ (IsS28.ge HI0.out)) | exact HB.out), by repeat (first | (with_reducible first | exact HK.out | apply KeepBut.set_ | apply keep_drewN | apply keep_drew | apply keep_alloc) | exact HK.out)⟩
            ·rw [if_neg c18] at H
             have c18b0 : decide (a1 < (wrap64 (x5_1 + (wrap64 ((Int.tmod (wrap64 (rd s0_0 (ji10))) 128) * x6_1))))) = false := decide_eq_false c18
             clear c18
             simp only [Option.some.injEq, Prod.mk.injEq] at H
             obtain ⟨rfl, rfl, rfl⟩ := H
             obtain ⟨ASz20_0, cSz20_0, HGz20, hgz20, HSz20_0⟩ := HI0.out
             have hcz20_0 := cellS28_0 HGz20
             have hcz20_1 := cellS28_1 HGz20
             have hcz20_2 := cellS28_2 HGz20
             have hfz20_1 := blk_frozen HGz20 1
             have hfz20_2 := blk_frozen HGz20 2
             clear HGz20 hgz20
             have p130 : 0 ≤ ((ji10) : Int) := of_decide_eq_true zq14_0
             have q130 : (ji10) < (s0_0.length : Int) := of_decide_eq_true zq14_0
             obtain ⟨ad130, e130, hx130_0⟩ := Kd.at_int HSz20_0 (ji10) p130 q130
             cases e130
             replace hx130_0 := pw_cell_below HB.out hx130_0
             replace p130 := eq_true p130
             replace q130 := eq_true q130
             go_wp2
             repeat (go_quiet (fail); try go_wp2)
             go_ret
             exact ⟨by first | rfl | (simp [errW_none, errW_some] <;> rfl) | (simp only [← hji10]; first | rfl | (simp [errW_none, errW_some] <;> rfl)) | (simp [*, errW_none, errW_some] <;> rfl), by repeat (first | (with_reducible first | exact HI0.out | apply IsS28.alloc | apply IsS28.drewN | apply IsS28.drew | apply IsS28.set_1 | apply IsS28.set_2) | exact HI0.out), by repeat (first | (with_reducible first | exact HB.out | apply below_alloc | apply pw_below_drewN | apply below_drew1 | refine below_set ?_ (IsS28.ge HI0.out)) | exact HB.out), by repeat (first | (with_reducible first | exact HK.out | apply KeepBut.set_ | apply keep_drewN | apply keep_drew | apply keep_alloc) | exact HK.out)⟩
          ·rw [if_neg c15] at H
           have c15b0 : ((wrap64 (rd s0_0 (ji10))) == 0) = false := beq_eq_false_iff_ne.mpr c15
           have c15b1 : ((wrap64 (rd s0_0 (ji10))) != 0) = true := bne_iff_ne.mpr c15
           by_cases c21 : (wrap64 (x5_1 + (wrap64 ((Int.tmod (wrap64 (rd s0_0 (ji10))) 128) * x6_1)))) > a1
           ·rw [if_pos c21] at H
            have c21b0 : decide (a1 < (wrap64 (x5_1 + (wrap64 ((Int.tmod (wrap64 (rd s0_0 (ji10))) 128) * x6_1))))) = true := decide_eq_true c21
            clear c21
            simp only [Option.some.injEq, Prod.mk.injEq] at H
            obtain ⟨rfl, rfl, rfl⟩ := H
            obtain ⟨ASz22_0, cSz22_0, HGz22, hgz22, HSz22_0⟩ := HI0.out
            have hcz22_0 := cellS28_0 HGz22
            have hcz22_1 := cellS28_1 HGz22
            have hcz22_2 := cellS28_2 HGz22
            have hfz22_1 := blk_frozen HGz22 1
            have hfz22_2 := blk_frozen HGz22 2
            clear HGz22 hgz22
            have p130 : 0 ≤ ((ji10) : Int) := of_decide_eq_true zq14_0
            have q130 : (ji10) < (s0_0.length : Int) := of_decide_eq_true zq14_0
            obtain ⟨ad130, e130, hx130_0⟩ := Kd.at_int HSz22_0 (ji10) p130 q130
            cases e130
            replace hx130_0 := pw_cell_below HB.out hx130_0
            replace p130 := eq_true p130
            replace q130 := eq_true q130
            go_wp2
            repeat (go_quiet (fail); try go_wp2)
            go_ret
            exact ⟨by first | rfl | (simp [errW_none, errW_some] <;> rfl) | (simp only [← hji10]; first | rfl | (simp [errW_none, errW_some] <;> rfl)) | (simp [*, errW_none, errW_some] <;> rfl), by repeat (first | (with_reducible first | exact HI0.out | apply IsS28.alloc | apply IsS28.drewN | apply IsS28.drew | apply IsS28.set_1 | apply IsS28.set_2) | exact HI0.out), by repeat (first | (with_reducible first | exact HB.out | apply below_alloc | apply pw_below_drewN | apply below_drew1 | refine below_set ?_ (IsS28.ge HI0.out)) | exact HB.out), by repeat (first | (with_reducible first | exact HK.out | apply KeepBut.set_ | apply keep_drewN | apply keep_drew | apply keep_alloc) | exact HK.out)⟩
           ·rw [if_neg c21] at H
            have c21b0 : decide (a1 < (wrap64 (x5_1 + (wrap64 ((Int.tmod (wrap64 (rd s0_0 (ji10))) 128) * x6_1))))) = false := decide_eq_false c21
            clear c21
            simp only [Option.some.injEq, Prod.mk.injEq] at H
            obtain ⟨rfl, rfl, rfl⟩ := H
            obtain ⟨ASz23_0, cSz23_0, HGz23, hgz23, HSz23_0⟩ := HI0.out
            have hcz23_0 := cellS28_0 HGz23
            have hcz23_1 := cellS28_1 HGz23
            have hcz23_2 := cellS28_2 HGz23
            have hfz23_1 := blk_frozen HGz23 1
            have hfz23_2 := blk_frozen HGz23 2
            clear HGz23 hgz23
            have p130 : 0 ≤ ((ji10) : Int) := of_decide_eq_true zq14_0
            have q130 : (ji10) < (s0_0.length : Int) := of_decide_eq_true zq14_0
            obtain ⟨ad130, e130, hx130_0⟩ := Kd.at_int HSz23_0 (ji10) p130 q130
            cases e130
            replace hx130_0 := pw_cell_below HB.out hx130_0
            replace p130 := eq_true p130
            replace q130 := eq_true q130
            go_wp2
            repeat (go_quiet (fail); try go_wp2)
            go_ret
            exact ⟨by first | rfl | (simp [errW_none, errW_some] <;> rfl) | (simp only [← hji10]; first | rfl | (simp [errW_none, errW_some] <;> rfl)) | (simp [*, errW_none, errW_some] <;> rfl), by repeat (first | (with_reducible first | exact HI0.out | apply IsS28.alloc | apply IsS28.drewN | apply IsS28.drew | apply IsS28.set_1 | apply IsS28.set_2) | exact HI0.out), by repeat (first | (with_reducible first | exact HB.out | apply below_alloc | apply pw_below_drewN | apply below_drew1 | refine below_set ?_ (IsS28.ge HI0.out)) | exact HB.out), by repeat (first | (with_reducible first | exact HK.out | apply KeepBut.set_ | apply keep_drewN | apply keep_drew | apply keep_alloc) | exact HK.out)⟩
        ·rw [if_neg c12] at H
         exact absurd H (by simp)
       ·rw [if_neg c11] at H
        exact absurd H (by simp)
    ·rw [if_neg c5] at H
     have c5b0 : decide (x7_1 < 10) = false := decide_eq_false c5
     clear c5
     simp only [Option.some.injEq, Prod.mk.injEq] at H
     obtain ⟨rfl, rfl, rfl⟩ := H
     go_wp2
     repeat (go_quiet (fail); try go_wp2)
     go_ret
     exact ⟨by first | rfl | (simp [errW_none, errW_some] <;> rfl) | (simp [*, errW_none, errW_some] <;> rfl), by repeat (first | (with_reducible first | exact HI0.out | apply IsS28.alloc | apply IsS28.drewN | apply IsS28.drew | apply IsS28.set_1 | apply IsS28.set_2) | exact HI0.out), by repeat (first | (with_reducible first | exact HB.out | apply below_alloc | apply pw_below_drewN | apply below_drew1 | refine below_set ?_ (IsS28.ge HI0.out)) | exact HB.out), by repeat (first | (with_reducible first | exact HK.out | apply KeepBut.set_ | apply keep_drewN | apply keep_drew | apply keep_alloc) | exact HK.out)⟩
 ·rw [if_neg c3] at H
  have c3b0 : (s0_2 == 0) = false := beq_eq_false_iff_ne.mpr c3
  have c3b1 : (s0_2 != 0) = true := bne_iff_ne.mpr c3
  simp only [Option.some.injEq, Prod.mk.injEq] at H
  obtain ⟨rfl, rfl, rfl⟩ := H
  obtain ⟨ASz24_0, cSz24_0, HGz24, hgz24, HSz24_0⟩ := HI0.out
  have hcz24_0 := cellS28_0 HGz24
  have hcz24_1 := cellS28_1 HGz24
  have hcz24_2 := cellS28_2 HGz24
  have hfz24_1 := blk_frozen HGz24 1
  have hfz24_2 := blk_frozen HGz24 2
  clear HGz24 hgz24
  go_enter Try.func14, Try.ntmps14
  go_wp2
  repeat (go_quiet (fail); try go_wp2)
  go_ret
  exact ⟨by first | rfl | (simp [errW_none, errW_some] <;> rfl) | (simp [*, errW_none, errW_some] <;> rfl), by repeat (first | (with_reducible first | exact HI0.out | apply IsS28.alloc | apply IsS28.drewN | apply IsS28.drew | apply IsS28.set_1 | apply IsS28.set_2) | exact HI0.out), by repeat (first | (with_reducible first | exact HB.out | apply below_alloc | apply pw_below_drewN | apply below_drew1 | refine below_set ?_ (IsS28.ge HI0.out)) | exact HB.out), by repeat (first | (with_reducible first | exact HK.out | apply KeepBut.set_ | apply keep_drewN | apply keep_drew | apply keep_alloc) | exact HK.out)⟩

/-! ### cenotaphref06_Reader_Text: function 12 -/
def cenotaphref06_Reader_Text.f (k : Nat) (s0_0 : List Int) (s0_1 : Int) (s0_2 : Int) (a1 : Int) : Option (ByteArray × Int × Int) := (cenotaphref06_Reader_Num.f k s0_0 s0_1 s0_2 a1).bind fun p => if ¬ p.2.2 = 0 then some (⟨#[]⟩, p.2.1, p.2.2) else if 0 ≤ p.1 ∧ 0 ≤ p.2.1 ∧ p.2.1 ≤ (s0_0.length : Int) then (if p.1 > (s0_0.length : Int) - p.2.1 then some (⟨#[]⟩, p.2.1, 2) else some (strOfNums ((s0_0.take (p.2.1 + p.1).toNat).drop p.2.1.toNat), p.2.1 + p.1, 0)) else none
theorem cenotaphref06_Reader_Text.mono (s0_0 : List Int) (s0_1 : Int) (s0_2 : Int) (a1 : Int) : ∀ k, LeO (cenotaphref06_Reader_Text.f k s0_0 s0_1 s0_2 a1) (cenotaphref06_Reader_Text.f (k + 1) s0_0 s0_1 s0_2 a1) := by
  intro k r h
  obtain ⟨p, hp, h2⟩ := Option.bind_eq_some_iff.mp h
  exact Option.bind_eq_some_iff.mpr ⟨p, cenotaphref06_Reader_Num.mono s0_0 s0_1 s0_2 a1 k p hp, h2⟩
set_option maxHeartbeats 8000000 in
set_option maxRecDepth 100000 in
theorem cenotaphref06_Reader_Text.calls (k : Nat) (g : Nat) (s0_0 : List Int) (s0_1 : Int) (s0_2 : Int) (a1 : Int) (r1 : ByteArray) (r2 : Int) (r3 : Int) (w0 w : World) (hI : IsS28 w0 w g s0_0 s0_1 s0_2) (hB : Below w0.heap.size w0 w) (h : cenotaphref06_Reader_Text.f k s0_0 s0_1 s0_2 a1 = some (r1, r2, r3)) :
    Calls Try.prog 12 #[.pointer (some ⟨g, 0, none⟩), .int .i64 a1] w fun e w' => e = .returned (.string r1) ∧ IsS28 w0 w' g s0_0 r2 r3 ∧ Below w0.heap.size w0 w' ∧ KeepBut w w' g none := by
  obtain ⟨⟨n, t1, t2⟩, hnum, h2⟩ := Option.bind_eq_some_iff.mp h
  dsimp only at h2
  clear h
  have H2 := Aside0.mk h2
  clear h2
  have HN := Aside0.mk (cenotaphref06_Reader_Num.calls k g s0_0 s0_1 s0_2 a1 n t1 t2 w0 w hI hB hnum)
  have HK := Aside0.mk (KeepBut.refl w g none)
  clear hI hB hnum
  go_enter Try.func12, Try.ntmps12
  go_wp2_with fail
  refine HN.out.mono ?_
  rintro e w1 ⟨rfl, hi, hb, hk⟩
  have HI0 := Aside0.mk hi
  have HB := Aside0.mk hb
  replace HK := Aside0.mk (HK.out.trans hk (.inl rfl))
  clear hi hb hk HN
  obtain ⟨ASz2_0, cSz2_0, HGz2, hgz2, HSz2_0⟩ := HI0.out
  have hcz2_0 := cellS28_0 HGz2
  have hcz2_1 := cellS28_1 HGz2
  have hcz2_2 := cellS28_2 HGz2
  have hfz2_1 := blk_frozen HGz2 1
  have hfz2_2 := blk_frozen HGz2 2
  clear hgz2
  have h2 := H2.out
  clear H2
  have hlen := HSz2_0.2.1
  by_cases hz : t2 = 0
  · subst hz
    rw [if_neg (by simp)] at h2
    by_cases hc : 0 ≤ n ∧ 0 ≤ t1 ∧ t1 ≤ (s0_0.length : Int)
    · rw [if_pos hc] at h2
      obtain ⟨hn0, ht0, ht1⟩ := hc
      have hw1 : IntKind.i64.wrap ((s0_0.length : Int) - t1) = (s0_0.length : Int) - t1 := by rw [IntKind.wrap_i64] <;> omega
      by_cases hgt : n > (s0_0.length : Int) - t1
      · rw [if_pos hgt] at h2
        have hgb : decide ((s0_0.length : Int) - t1 < n) = true := decide_eq_true hgt
        have hgb2 := eq_true hgt
        simp only [Option.some.injEq, Prod.mk.injEq] at h2
        obtain ⟨rfl, rfl, rfl⟩ := h2
        clear HGz2
        go_wp2
        repeat (go_quiet (fail); try go_wp2)
        all_goals try (exfalso; omega)
        go_ret
        exact ⟨rfl, by repeat (first | (with_reducible first | exact HI0.out | apply IsS28.drewN | apply IsS28.drew | apply IsS28.set_1 | apply IsS28.set_2) | exact HI0.out), by repeat (first | (with_reducible first | exact HB.out | apply below_alloc | apply pw_below_drewN | apply below_drew1 | refine below_set ?_ (IsS28.ge HI0.out)) | exact HB.out), by repeat (first | (with_reducible first | exact HK.out | apply KeepBut.set_ | apply keep_drewN | apply keep_drew | apply keep_alloc) | exact HK.out)⟩
      · rw [if_neg hgt] at h2
        have hgb : decide ((s0_0.length : Int) - t1 < n) = false := decide_eq_false hgt
        have hgb2 := eq_false hgt
        simp only [Option.some.injEq, Prod.mk.injEq] at h2
        obtain ⟨rfl, rfl, rfl⟩ := h2
        have hw2 : IntKind.i64.wrap (t1 + n) = t1 + n := by rw [IntKind.wrap_i64] <;> omega
        have hw3 : IntKind.i64.wrap (t1 + n - n) = t1 := by rw [IntKind.wrap_i64] <;> omega
        clear HGz2
        go_wp2
        repeat (go_quiet (fail); try go_wp2)
        all_goals try (exfalso; omega)
        refine with_ (fun W => IsS28 w0 W g s0_0 t1 0 ∧ Below w0.heap.size w0 W ∧ KeepBut w W g none) ⟨?_, ?_, ?_⟩ ?_
        · repeat (first | (with_reducible first | exact HI0.out | apply IsS28.drewN | apply IsS28.drew | apply IsS28.set_1 | apply IsS28.set_2) | exact HI0.out)
        · repeat (first | (with_reducible first | exact HB.out | apply below_alloc | apply pw_below_drewN | apply below_drew1 | refine below_set ?_ (IsS28.ge HI0.out)) | exact HB.out)
        · repeat (first | (with_reducible first | exact HK.out | apply KeepBut.set_ | apply keep_drewN | apply keep_drew | apply keep_alloc) | exact HK.out)
        rintro ⟨hi, hb, hk⟩
        replace HI0 := Aside0.mk hi
        replace HB := Aside0.mk hb
        replace HK := Aside0.mk hk
        clear hi hb hk hcz2_0 hcz2_1 hcz2_2 hfz2_1 hfz2_2
        generalize World.drewN _ _ = W at HI0 HB HK ⊢
        obtain ⟨A3, c3, HG3, hg3, HS3⟩ := HI0.out
        have hc3 := HS3.2.1
        obtain ⟨i1, hi1, hz1, hsz1, hby1⟩ := info_parts info5
        have hC4 := fun (W' : World) (hb' : Below w0.heap.size w0 W') => cut_lh A3 s0_0.length (s0_0.length + c3) t1 (t1 + n) ht0 (by omega) (by omega) (by omega) (Kd.C_below HS3 hb')
        have hw4 : wrap64 (t1 + n) = t1 + n := Go.Proofs.Ytgkcdmhndplejaa.Pure.wrap_id (by omega) (by omega)
        have q1 := eq_true (show 0 ≤ t1 + n by omega)
        have q2 := eq_true (show t1 + n ≤ (s0_0.length : Int) + (c3 : Int) by omega)
        have q3 := eq_true ht0
        have q4 := eq_true (show t1 ≤ max (t1 + n) 0 by omega)
        have hcv := fun (W' : World) (hb' : Below w0.heap.size w0 W') => Kd.C_string (P := Try.prog) (c := s0_0.length + c3 - t1.toNat) Try.underlying22 Try.underlying5 Try.underlying9 (hC4 W' hb')
        obtain ⟨r, hr⟩ : ∃ r, strOfNums ((s0_0.take (t1 + n).toNat).drop t1.toNat) = r := ⟨_, rfl⟩
        rw [hr] at hcv
        have HRR := Aside0.mk hr
        clear hr
        refine start_ (n := 17) (S := fun w' => w'.cell? ⟨g, 0, none⟩ = some (.slice A3 s0_0.length (s0_0.length + c3)) ∧ w'.cell? ⟨g, 1, none⟩ = some (.int .i64 t1) ∧ (convert 22 9 (.slice (if s0_0.length + c3 = t1.toNat then A3 else A3.map fun x => x.add t1.toNat) ((t1 + n).toNat - t1.toNat) (s0_0.length + c3 - t1.toNat))).run Try.prog w' = .ok (.string r) w') (ds := []) #[false, false, false, false, false, false, false, false, false, false, false, false, false, false, false, false, false] (by kernel_rfl) rfl rfl ⟨cellS28_0 HG3, cellS28_1 HG3, hcv _ (below_drew1 HB.out)⟩ (fun hHeld => ?_)
        clear hcv hC4
        refine pure_ (i := 0) (N := some 30) (v := ?_) (a' := ?_) #[true, false, false, false, false, false, false, false, false, false, false, false, false, false, false, false, false] rfl rfl (by kernel_rfl) (fun _ _ _ h => h) (Or.inl ⟨by rfl, ?_⟩) ?_ ?_
        rotate_left
        · intro w'
          go_simp
          with_reducible rfl
        rotate_left
        · simp only [Act.put, List.setIfInBounds_toArray, List.set_cons_zero, List.set_cons_succ, i64_w, i32_w]
          rfl
        refine pure_ (i := 1) (N := some 31) (v := ?_) (a' := ?_) #[true, true, false, false, false, false, false, false, false, false, false, false, false, false, false, false, false] rfl rfl (by kernel_rfl) (fun _ _ _ h => h) (Or.inl ⟨by rfl, ?_⟩) ?_ ?_
        rotate_left
        · intro w'
          go_simp
          with_reducible rfl
        rotate_left
        · simp only [Act.put, List.setIfInBounds_toArray, List.set_cons_zero, List.set_cons_succ, i64_w, i32_w]
          rfl
        refine pure_ (i := 2) (N := some 32) (v := ?_) (a' := ?_) #[true, true, true, false, false, false, false, false, false, false, false, false, false, false, false, false, false] rfl rfl (by kernel_rfl) (fun _ _ _ h => h) (Or.inl ⟨by rfl, ?_⟩) ?_ ?_
        rotate_left
        · intro w'
          go_simp
          with_reducible rfl
        rotate_left
        · simp only [Act.put, List.setIfInBounds_toArray, List.set_cons_zero, List.set_cons_succ, i64_w, i32_w]
          rfl
        refine take_ (i := 3) (N := some 33) (v := ?_) (a' := ?_) #[true, true, true, true, false, false, false, false, false, false, false, false, false, false, false, false, false] rfl rfl (by kernel_rfl) (fun _ _ _ h => h) (Or.inl ⟨by rfl, ?_⟩) hHeld ?_ ?_
        rotate_left
        · rintro w' ⟨s0, s1, s2⟩
          go_simp
          with_reducible rfl
        rotate_left
        · simp only [Act.put, List.setIfInBounds_toArray, List.set_cons_zero, List.set_cons_succ, i64_w, i32_w]
          rfl
        refine pure_ (i := 4) (N := some 34) (v := ?_) (a' := ?_) #[true, true, true, true, true, false, false, false, false, false, false, false, false, false, false, false, false] rfl rfl (by kernel_rfl) (fun _ _ _ h => h) (Or.inl ⟨by rfl, ?_⟩) ?_ ?_
        rotate_left
        · intro w'
          go_simp
          with_reducible rfl
        rotate_left
        · simp only [Act.put, List.setIfInBounds_toArray, List.set_cons_zero, List.set_cons_succ, i64_w, i32_w]
          rfl
        refine pure_ (i := 5) (N := some 35) (v := ?_) (a' := ?_) #[true, true, true, true, true, true, false, false, false, false, false, false, false, false, false, false, false] rfl rfl (by kernel_rfl) (fun _ _ _ h => h) (Or.inl ⟨by rfl, ?_⟩) ?_ ?_
        rotate_left
        · intro w'
          go_simp
          with_reducible rfl
        rotate_left
        · simp only [Act.put, List.setIfInBounds_toArray, List.set_cons_zero, List.set_cons_succ, i64_w, i32_w]
          rfl
        refine pure_ (i := 6) (N := some 36) (v := ?_) (a' := ?_) #[true, true, true, true, true, true, true, false, false, false, false, false, false, false, false, false, false] rfl rfl (by kernel_rfl) (fun _ _ _ h => h) (Or.inl ⟨by rfl, ?_⟩) ?_ ?_
        rotate_left
        · intro w'
          go_simp
          with_reducible rfl
        rotate_left
        · simp only [Act.put, List.setIfInBounds_toArray, List.set_cons_zero, List.set_cons_succ, i64_w, i32_w]
          rfl
        refine take_ (i := 7) (N := some 37) (v := ?_) (a' := ?_) #[true, true, true, true, true, true, true, true, false, false, false, false, false, false, false, false, false] rfl rfl (by kernel_rfl) (fun _ _ _ h => h) (Or.inl ⟨by rfl, ?_⟩) hHeld ?_ ?_
        rotate_left
        · rintro w' ⟨s0, s1, s2⟩
          go_simp
          with_reducible rfl
        rotate_left
        · simp only [Act.put, List.setIfInBounds_toArray, List.set_cons_zero, List.set_cons_succ, i64_w, i32_w]
          rfl
        refine pure_ (i := 8) (N := some 38) (v := ?_) (a' := ?_) #[true, true, true, true, true, true, true, true, true, false, false, false, false, false, false, false, false] rfl rfl (by kernel_rfl) (fun _ _ _ h => h) (Or.inl ⟨by rfl, ?_⟩) ?_ ?_
        rotate_left
        · intro w'
          go_simp
          with_reducible rfl
        rotate_left
        · simp only [Act.put, List.setIfInBounds_toArray, List.set_cons_zero, List.set_cons_succ, i64_w, i32_w]
          rfl
        refine pure_ (i := 9) (N := some 39) (v := ?_) (a' := ?_) #[true, true, true, true, true, true, true, true, true, true, false, false, false, false, false, false, false] rfl rfl (by kernel_rfl) (fun _ _ _ h => h) (Or.inl ⟨by rfl, ?_⟩) ?_ ?_
        rotate_left
        · intro w'
          go_simp
          with_reducible rfl
        rotate_left
        · simp only [Act.put, List.setIfInBounds_toArray, List.set_cons_zero, List.set_cons_succ, i64_w, i32_w]
          rfl
        refine pure_ (i := 10) (N := some 40) (v := ?_) (a' := ?_) #[true, true, true, true, true, true, true, true, true, true, true, false, false, false, false, false, false] rfl rfl (by kernel_rfl) (fun _ _ _ h => h) (Or.inl ⟨by rfl, ?_⟩) ?_ ?_
        rotate_left
        · intro w'
          go_simp
          with_reducible rfl
        rotate_left
        · simp only [Act.put, List.setIfInBounds_toArray, List.set_cons_zero, List.set_cons_succ, i64_w, i32_w]
          rfl
        refine take_ (i := 11) (N := some 41) (v := ?_) (a' := ?_) #[true, true, true, true, true, true, true, true, true, true, true, true, false, false, false, false, false] rfl rfl (by kernel_rfl) (fun _ _ _ h => h) (Or.inl ⟨by rfl, ?_⟩) hHeld ?_ ?_
        rotate_left
        · rintro w' ⟨s0, s1, s2⟩
          go_simp
          with_reducible rfl
        rotate_left
        · simp only [Act.put, List.setIfInBounds_toArray, List.set_cons_zero, List.set_cons_succ, i64_w, i32_w]
          rfl
        refine pure_ (i := 12) (N := some 42) (v := ?_) (a' := ?_) #[true, true, true, true, true, true, true, true, true, true, true, true, true, false, false, false, false] rfl rfl (by kernel_rfl) (fun _ _ _ h => h) (Or.inl ⟨by rfl, ?_⟩) ?_ ?_
        rotate_left
        · intro w'
          go_simp
          with_reducible rfl
        rotate_left
        · simp only [Act.put, List.setIfInBounds_toArray, List.set_cons_zero, List.set_cons_succ, i64_w, i32_w]
          rfl
        refine pure_ (i := 13) (N := some 43) (v := ?_) (a' := ?_) #[true, true, true, true, true, true, true, true, true, true, true, true, true, true, false, false, false] rfl rfl (by kernel_rfl) (fun _ _ _ h => h) (Or.inl ⟨by rfl, ?_⟩) ?_ ?_
        rotate_left
        · intro w'
          go_simp
          with_reducible rfl
        rotate_left
        · simp only [Act.put, List.setIfInBounds_toArray, List.set_cons_zero, List.set_cons_succ, i64_w, i32_w]
          rfl
        refine pure_ (i := 14) (N := some 44) (v := ?_) (a' := ?_) #[true, true, true, true, true, true, true, true, true, true, true, true, true, true, true, false, false] rfl rfl (by kernel_rfl) (fun _ _ _ h => h) (Or.inl ⟨by rfl, ?_⟩) ?_ ?_
        rotate_left
        · intro w'
          go_simp
          with_reducible rfl
        rotate_left
        · simp only [Act.put, List.setIfInBounds_toArray, List.set_cons_zero, List.set_cons_succ, i64_w, i32_w]
          rfl
        refine take_ (i := 15) (N := some 45) (v := ?_) (a' := ?_) #[true, true, true, true, true, true, true, true, true, true, true, true, true, true, true, true, false] rfl rfl (by kernel_rfl) (fun _ _ _ h => h) (Or.inl ⟨by rfl, ?_⟩) hHeld ?_ ?_
        rotate_left
        · rintro w' ⟨s0, s1, s2⟩
          go_simp
          with_reducible rfl
        rotate_left
        · simp only [Act.put, List.setIfInBounds_toArray, List.set_cons_zero, List.set_cons_succ, i64_w, i32_w]
          rfl
        refine pure_ (i := 16) (N := some 6) (v := ?_) (a' := ?_) #[true, true, true, true, true, true, true, true, true, true, true, true, true, true, true, true, true] rfl rfl (by kernel_rfl) (fun _ _ _ h => h) (Or.inl ⟨by rfl, ?_⟩) ?_ ?_
        rotate_left
        · intro w'
          go_simp
          with_reducible rfl
        rotate_left
        · simp only [Act.put, List.setIfInBounds_toArray, List.set_cons_zero, List.set_cons_succ, i64_w, i32_w]
          rfl
        refine done_ (by kernel_rfl) ?_
        have hcz3_1 := cellS28_1 HG3
        have hfz3_1 := blk_frozen HG3 1
        clear HG3
        go_wp2
        repeat (go_quiet (fail); try go_wp2)
        all_goals go_ret
        all_goals exact ⟨by rw [HRR.out]; rfl, by repeat (first | (with_reducible first | exact HI0.out | apply IsS28.drewN | apply IsS28.drew | apply IsS28.set_1 | apply IsS28.set_2) | exact HI0.out), by repeat (first | (with_reducible first | exact HB.out | apply below_alloc | apply pw_below_drewN | apply below_drew1 | refine below_set ?_ (IsS28.ge HI0.out)) | exact HB.out), by repeat (first | (with_reducible first | exact HK.out | apply KeepBut.set_ | apply keep_drewN | apply keep_drew | apply keep_alloc) | exact HK.out)⟩
    · rw [if_neg hc] at h2; cases h2
  · rw [if_pos hz] at h2
    have hzb : (t2 != 0) = true := bne_iff_ne.mpr hz
    simp only [Option.some.injEq, Prod.mk.injEq] at h2
    obtain ⟨rfl, rfl, rfl⟩ := h2
    clear HGz2
    go_wp2
    go_ret
    exact ⟨rfl, by repeat (first | (with_reducible first | exact HI0.out | apply IsS28.drewN | apply IsS28.drew | apply IsS28.set_1 | apply IsS28.set_2) | exact HI0.out), by repeat (first | (with_reducible first | exact HB.out | apply below_alloc | apply pw_below_drewN | apply below_drew1 | refine below_set ?_ (IsS28.ge HI0.out)) | exact HB.out), by repeat (first | (with_reducible first | exact HK.out | apply KeepBut.set_ | apply keep_drewN | apply keep_drew | apply keep_alloc) | exact HK.out)⟩

/-! ### cenotaphref06_Reader_End: function 17 -/
def cenotaphref06_Reader_End.f (s0_0 : List Int) (s0_1 : Int) (s0_2 : Int) : Option (Int × Int × Int) := if s0_2 = 0 then (if s0_1 < (s0_0.length : Int) then (some (3, s0_1, s0_2)) else (some (s0_2, s0_1, s0_2))) else (some (s0_2, s0_1, s0_2))
set_option maxHeartbeats 8000000 in
set_option maxRecDepth 100000 in
theorem cenotaphref06_Reader_End.calls (g : Nat) (s0_0 : List Int) (s0_1 : Int) (s0_2 : Int) (r1 : Int) (r2 : Int) (r3 : Int) (w0 w : World) (hI : IsS28 w0 w g s0_0 s0_1 s0_2) (hB : Below w0.heap.size w0 w) (h : cenotaphref06_Reader_End.f s0_0 s0_1 s0_2 = some (r1, r2, r3)) :
    Calls Try.prog 17 #[.pointer (some ⟨g, 0, none⟩)] w fun e w' => e = .returned (.int .i64 r1) ∧ IsS28 w0 w' g s0_0 r2 r3 ∧ Below w0.heap.size w0 w' ∧ KeepBut w w' g none := by
  have HI0 := Aside0.mk hI
  have HK := Aside0.mk (KeepBut.refl w g none)
  have HL := Aside0.mk hB.size
  clear hI
  have HW0 := Aside0.mk hB.size
  have HB := Aside0.mk hB
  clear hB
  have H : (if s0_2 = 0 then (if s0_1 < (s0_0.length : Int) then (some (3, s0_1, s0_2)) else (some (s0_2, s0_1, s0_2))) else (some (s0_2, s0_1, s0_2))) = some (r1, r2, r3) := h
  clear h
  by_cases c2 : s0_2 = 0
  · rw [if_pos c2] at H
    have c2b0 : (s0_2 == 0) = true := beq_iff_eq.mpr c2
    have c2b1 : (s0_2 != 0) = false := bne_eq_false_iff_eq.mpr c2
    clear c2
    by_cases c3 : s0_1 < (s0_0.length : Int)
    · rw [if_pos c3] at H
      have c3b0 : decide (s0_1 < (s0_0.length : Int)) = true := decide_eq_true c3
      clear c3
      simp only [Option.some.injEq, Prod.mk.injEq] at H
      obtain ⟨rfl, rfl, rfl⟩ := H
      obtain ⟨ASz4_0, cSz4_0, HGz4, hgz4, HSz4_0⟩ := HI0.out
      have hcz4_0 := cellS28_0 HGz4
      have hcz4_1 := cellS28_1 HGz4
      have hcz4_2 := cellS28_2 HGz4
      have hfz4_1 := blk_frozen HGz4 1
      have hfz4_2 := blk_frozen HGz4 2
      clear HGz4 hgz4
      go_enter Try.func17, Try.ntmps17
      go_wp2
      repeat (go_quiet (fail); try go_wp2)
      go_ret
      exact ⟨by first | rfl | (simp [errW_none, errW_some] <;> rfl) | (simp [*, errW_none, errW_some] <;> rfl), by repeat (first | (with_reducible first | exact HI0.out | apply IsS28.alloc | apply IsS28.drewN | apply IsS28.drew | apply IsS28.set_1 | apply IsS28.set_2) | exact HI0.out), by repeat (first | (with_reducible first | exact HB.out | apply below_alloc | apply pw_below_drewN | apply below_drew1 | refine below_set ?_ (IsS28.ge HI0.out)) | exact HB.out), by repeat (first | (with_reducible first | exact HK.out | apply KeepBut.set_ | apply keep_drewN | apply keep_drew | apply keep_alloc) | exact HK.out)⟩
    · rw [if_neg c3] at H
      have c3b0 : decide (s0_1 < (s0_0.length : Int)) = false := decide_eq_false c3
      clear c3
      simp only [Option.some.injEq, Prod.mk.injEq] at H
      obtain ⟨rfl, rfl, rfl⟩ := H
      obtain ⟨ASz5_0, cSz5_0, HGz5, hgz5, HSz5_0⟩ := HI0.out
      have hcz5_0 := cellS28_0 HGz5
      have hcz5_1 := cellS28_1 HGz5
      have hcz5_2 := cellS28_2 HGz5
      have hfz5_1 := blk_frozen HGz5 1
      have hfz5_2 := blk_frozen HGz5 2
      clear HGz5 hgz5
      go_enter Try.func17, Try.ntmps17
      go_wp2
      repeat (go_quiet (fail); try go_wp2)
      go_ret
      exact ⟨by first | rfl | (simp [errW_none, errW_some] <;> rfl) | (simp [*, errW_none, errW_some] <;> rfl), by repeat (first | (with_reducible first | exact HI0.out | apply IsS28.alloc | apply IsS28.drewN | apply IsS28.drew | apply IsS28.set_1 | apply IsS28.set_2) | exact HI0.out), by repeat (first | (with_reducible first | exact HB.out | apply below_alloc | apply pw_below_drewN | apply below_drew1 | refine below_set ?_ (IsS28.ge HI0.out)) | exact HB.out), by repeat (first | (with_reducible first | exact HK.out | apply KeepBut.set_ | apply keep_drewN | apply keep_drew | apply keep_alloc) | exact HK.out)⟩
  · rw [if_neg c2] at H
    have c2b0 : (s0_2 == 0) = false := beq_eq_false_iff_ne.mpr c2
    have c2b1 : (s0_2 != 0) = true := bne_iff_ne.mpr c2
    simp only [Option.some.injEq, Prod.mk.injEq] at H
    obtain ⟨rfl, rfl, rfl⟩ := H
    obtain ⟨ASz6_0, cSz6_0, HGz6, hgz6, HSz6_0⟩ := HI0.out
    have hcz6_0 := cellS28_0 HGz6
    have hcz6_1 := cellS28_1 HGz6
    have hcz6_2 := cellS28_2 HGz6
    have hfz6_1 := blk_frozen HGz6 1
    have hfz6_2 := blk_frozen HGz6 2
    clear HGz6 hgz6
    go_enter Try.func17, Try.ntmps17
    go_wp2
    repeat (go_quiet (fail); try go_wp2)
    go_ret
    exact ⟨by first | rfl | (simp [errW_none, errW_some] <;> rfl) | (simp [*, errW_none, errW_some] <;> rfl), by repeat (first | (with_reducible first | exact HI0.out | apply IsS28.alloc | apply IsS28.drewN | apply IsS28.drew | apply IsS28.set_1 | apply IsS28.set_2) | exact HI0.out), by repeat (first | (with_reducible first | exact HB.out | apply below_alloc | apply pw_below_drewN | apply below_drew1 | refine below_set ?_ (IsS28.ge HI0.out)) | exact HB.out), by repeat (first | (with_reducible first | exact HK.out | apply KeepBut.set_ | apply keep_drewN | apply keep_drew | apply keep_alloc) | exact HK.out)⟩

/-! ### cenotaphlaw06_WireReads: function 3 -/
theorem rf_call {w : World} {g : Nat} {l : List Int} {a e : Int} (h : RD 28 w g l a e) : IsS28 (cutW w g) w g l a e ∧ Below (cutW w g).heap.size (cutW w g) w := by
  have hlt := h.lt
  obtain ⟨A, c, hg, hc⟩ := h
  exact ⟨⟨A, c, hg, by rw [cutW_size (Nat.le_of_lt hlt)]; exact Nat.le_refl _, hc⟩, cutW_below (Nat.le_of_lt hlt)⟩
theorem rf_of {w1 w : World} {g : Nat} {l : List Int} {a e : Int} (h : IsS28 w1 w g l a e) (hb : Below w1.heap.size w1 w) : RD 28 w g l a e := by
  obtain ⟨A, c, hg, hge, hc⟩ := h
  exact RD.of hg hge hc hb
theorem rf_num (k : Nat) (g : Nat) (l : List Int) (a e m r1 r2 r3 : Int) (w : World) (hI : RD 28 w g l a e) (h : cenotaphref06_Reader_Num.f k l a e m = some (r1, r2, r3)) :
    Calls Try.prog 14 #[.pointer (some ⟨g, 0, none⟩), .int .i64 m] w fun x w' => x = .returned (.int .i64 r1) ∧ RD 28 w' g l r2 r3 ∧ (∀ w0 : World, w0.heap.size ≤ g → Below w0.heap.size w0 w → Below w0.heap.size w0 w') ∧ KeepBut w w' g none := by
  obtain ⟨hi, hb⟩ := rf_call hI
  refine (cenotaphref06_Reader_Num.calls k g l a e m r1 r2 r3 _ w hi hb h).mono ?_
  rintro x w' ⟨rfl, hi, hb, hk⟩
  exact ⟨rfl, rf_of hi hb, fun w0 hge hB => hI.base hge hB hb hk, hk⟩
theorem rf_text (k : Nat) (g : Nat) (l : List Int) (a e m : Int) (r1 : ByteArray) (r2 r3 : Int) (w : World) (hI : RD 28 w g l a e) (h : cenotaphref06_Reader_Text.f k l a e m = some (r1, r2, r3)) :
    Calls Try.prog 12 #[.pointer (some ⟨g, 0, none⟩), .int .i64 m] w fun x w' => x = .returned (.string r1) ∧ RD 28 w' g l r2 r3 ∧ (∀ w0 : World, w0.heap.size ≤ g → Below w0.heap.size w0 w → Below w0.heap.size w0 w') ∧ KeepBut w w' g none := by
  obtain ⟨hi, hb⟩ := rf_call hI
  refine (cenotaphref06_Reader_Text.calls k g l a e m r1 r2 r3 _ w hi hb h).mono ?_
  rintro x w' ⟨rfl, hi, hb, hk⟩
  exact ⟨rfl, rf_of hi hb, fun w0 hge hB => hI.base hge hB hb hk, hk⟩
theorem rf_end (g : Nat) (l : List Int) (a e : Int) (w : World) (hI : RD 28 w g l a e) :
    Calls Try.prog 17 #[.pointer (some ⟨g, 0, none⟩)] w fun x w' => x = .returned (.int .i64 (if e = 0 ∧ a < (l.length : Int) then 3 else e)) ∧ RD 28 w' g l a e ∧ (∀ w0 : World, w0.heap.size ≤ g → Below w0.heap.size w0 w → Below w0.heap.size w0 w') ∧ KeepBut w w' g none := by
  obtain ⟨hi, hb⟩ := rf_call hI
  refine (cenotaphref06_Reader_End.calls g l a e (if e = 0 ∧ a < (l.length : Int) then 3 else e) a e _ w hi hb ?_).mono ?_
  · rw [cenotaphref06_Reader_End.f]
    by_cases h1 : e = 0
    · subst h1
      by_cases h2 : a < (l.length : Int)
      · rw [if_pos rfl, if_pos h2, if_pos ⟨rfl, h2⟩]
      · rw [if_pos rfl, if_neg h2, if_neg (fun h => h2 h.2)]
    · rw [if_neg h1, if_neg (fun h => h1 h.1)]
  rintro x w' ⟨rfl, hi, hb, hk⟩
  exact ⟨rfl, rf_of hi hb, fun w0 hge hB => hI.base hge hB hb hk, hk⟩
theorem rf_cell {w : World} {g : Nat} {l : List Int} {a e : Int} (h : RD 28 w g l a e) : w.cell? ⟨g, 2, none⟩ = some (.int .i64 e) := by
  obtain ⟨A, c, hg, -⟩ := h
  exact (blk_cell hg 2).trans rfl
/-- The answer of End. -/
def rEnd (L : List Int) (a e : Int) : Int := if e = 0 ∧ a < (L.length : Int) then 3 else e
def cenotaphlaw06_WireReads.chk (L : List Int) (a e a2 e2 : Int) (c : Option Bool) : Option Bool := if e = e2 then (if rEnd L a e = rEnd L a2 e2 then c else some false) else some false
def cenotaphlaw06_WireReads.l0 (k : Nat) (L : List Int) (l : List S31) : Nat → Nat → Int → Int → Int → Int → Option Bool
  | 0, _, _, _, _, _ => none
  | m + 1, i, a, e, a2, e2 => if i < l.length ∧ i < 60 then
      (if (rd_T31 l (i : Int)).f0 = true then (wire_Reader_Text.f k L a e (rd_T31 l (i : Int)).f1).bind fun t => (cenotaphref06_Reader_Text.f k L a2 e2 (rd_T31 l (i : Int)).f1).bind fun u => if t.1.toList = u.1.toList then cenotaphlaw06_WireReads.chk L t.2.1 t.2.2 u.2.1 u.2.2 (cenotaphlaw06_WireReads.l0 k L l m (i + 1) t.2.1 t.2.2 u.2.1 u.2.2) else some false
      else (wire_Reader_Num.f k L a e (rd_T31 l (i : Int)).f1).bind fun t => (cenotaphref06_Reader_Num.f k L a2 e2 (rd_T31 l (i : Int)).f1).bind fun u => if t.1 = u.1 then cenotaphlaw06_WireReads.chk L t.2.1 t.2.2 u.2.1 u.2.2 (cenotaphlaw06_WireReads.l0 k L l m (i + 1) t.2.1 t.2.2 u.2.1 u.2.2) else some false)
    else some true
def cenotaphlaw06_WireReads.f (k : Nat) (l0 : List Int) (l1 : List S31) : Option Bool := cenotaphlaw06_WireReads.l0 k (l0.take 300) l1 61 0 0 0 0 0
theorem reads_ite {α : Type} {c : Prop} [Decidable c] {a a' b b' : Option α} (h : LeO a a') (h2 : LeO b b') : LeO (if c then a else b) (if c then a' else b') := by
  by_cases hc : c
  · rw [if_pos hc, if_pos hc]; exact h
  · rw [if_neg hc, if_neg hc]; exact h2
theorem cenotaphlaw06_WireReads.mono0 (L : List Int) (l : List S31) (k : Nat) : ∀ m i a e a2 e2, LeO (cenotaphlaw06_WireReads.l0 k L l m i a e a2 e2) (cenotaphlaw06_WireReads.l0 (k + 1) L l m i a e a2 e2)
  | 0, _, _, _, _, _ => LeO.refl _
  | m + 1, i, a, e, a2, e2 => by
    unfold cenotaphlaw06_WireReads.l0
    refine reads_ite (reads_ite (LeO.bind (wire_Reader_Text.mono _ _ _ _ k) fun t => LeO.bind (cenotaphref06_Reader_Text.mono _ _ _ _ k) fun u => reads_ite ?_ (LeO.refl _)) (LeO.bind (wire_Reader_Num.mono _ _ _ _ k) fun t => LeO.bind (cenotaphref06_Reader_Num.mono _ _ _ _ k) fun u => reads_ite ?_ (LeO.refl _))) (LeO.refl _)
    · exact reads_ite (reads_ite (cenotaphlaw06_WireReads.mono0 L l k m _ _ _ _ _) (LeO.refl _)) (LeO.refl _)
    · exact reads_ite (reads_ite (cenotaphlaw06_WireReads.mono0 L l k m _ _ _ _ _) (LeO.refl _)) (LeO.refl _)
theorem cenotaphlaw06_WireReads.mono (l0 : List Int) (l1 : List S31) : ∀ k, LeO (cenotaphlaw06_WireReads.f k l0 l1) (cenotaphlaw06_WireReads.f (k + 1) l0 l1) := fun k => cenotaphlaw06_WireReads.mono0 _ l1 k _ _ _ _ _ _
theorem reads_cut {w : World} {xs : List Int} (A : Option Addr) (n c : Nat) (hh : Int) (h0 : 0 ≤ hh) (h2 : hh ≤ (n : Int)) (hc : n ≤ c) (h : (Kd.int .u8).C w A n xs) : (Kd.int .u8).C w A hh.toNat (xs.take hh.toNat) :=
  Kd.C_of_reads (enc := Value.int .u8) (d := (0 : Int)) (h1 := fun _ => rfl) ((Kd.reads_of_C (enc := Value.int .u8) (d := (0 : Int)) (h1 := fun _ => rfl) h).take_ hh.toNat (by omega))
set_option maxHeartbeats 8000000 in
set_option maxRecDepth 100000 in
theorem cenotaphlaw06_WireReads.calls (k : Nat) (A0 : Option Addr) (c0 : Nat) (l0 : List Int) (A1 : Option Addr) (c1 : Nat) (l1 : List S31) (r : Bool) (w : World) (hr0 : Kd.C (Kd.int .u8) w A0 l0.length l0) (hc0 : l0.length ≤ c0) (hr1 : Kd.C k31 w A1 l1.length l1) (hc1 : l1.length ≤ c1) (h : cenotaphlaw06_WireReads.f k l0 l1 = some r) :
    Calls Try.prog 3 #[.slice A0 l0.length c0, .slice A1 l1.length c1] w fun e w' => e = .returned (.bool r) ∧ Below w.heap.size w w' := by
  have HB := Aside0.mk (Below.refl w.heap.size w)
  have H := Aside0.mk (show cenotaphlaw06_WireReads.l0 k (l0.take 300) l1 61 0 0 0 0 0 = some r from h)
  clear h
  have HR1 := Aside0.mk hr1
  have HN1 := Aside0.mk hr1.2.1
  clear hr1
  obtain ⟨m, hm⟩ : ∃ m : Int, (if 300 < (l0.length : Int) then 300 else (l0.length : Int)) = m := ⟨_, rfl⟩
  have hm0 : 0 ≤ m := by rw [← hm]; split <;> omega
  have hm1 : m ≤ (l0.length : Int) := by rw [← hm]; split <;> omega
  have hm2 : m ≤ 300 := by rw [← hm]; split <;> omega
  have htk : l0.take 300 = l0.take m.toNat := by
    rw [← hm]; split
    · rfl
    · rw [Int.toNat_natCast, List.take_length, List.take_of_length_le (by omega)]
  have hlen : (l0.take m.toNat).length = m.toNat := by rw [List.length_take]; omega
  have HC0 := Aside0.mk (reads_cut A0 l0.length c0 m hm0 hm1 hc0 hr0)
  have hl0 := hr0.2.1
  rw [htk] at H
  clear hr0 htk
  generalize l0.take m.toNat = L at hlen HC0 H
  obtain rfl : m = (L.length : Int) := by omega
  rw [Int.toNat_natCast] at HC0
  clear hlen
  have q1 := eq_true hm0
  have q2 := eq_true (show (L.length : Int) ≤ (c0 : Int) by omega)
  have hmc : L.length ≤ c0 := by omega
  have HX := Aside0.mk (show ([] : List Int) ++ L = L from rfl)
  go_enter Try.func3, Try.ntmps3
  go_wp2_with (first | ((with_reducible refine gate_dst (N := 14) rfl ?_); refine Kd.R_lit (Kd.int .u8) _ 5 ?hg (N := 14) ?hd (xs := ([] : List Int)) (inner := []) (ok := fun _ => True) (okp := fun _ => True) ?hr ?hp (fun _ hk => hk) trivial (Below.refl _ _) (Nat.le_refl _) (by simp) ?_; (case hd => rfl); (case hg => rfl); (case hr => first | (go_simp; done) | (go_simp; rfl)); (case hp => exact (Reps.none _ _)); intro v143 w6 ho7 hb hg_ hnew_; clear hg_ hnew_; have n0_ := Aside0.mk (Kd.R_lower ho7 (below_size HB.out)); have n1_ := Aside0.mk (below_step HB.out hb); clear HB; have HO144 := n0_; have HB := n1_; clear n0_ n1_; clear hb ho7) | ((with_reducible refine gate_builtin (b := .append) (xs := #[.tmp 14, .tmp 15]) rfl ?_); at_builtin; refine Kd.R_append_rows (Kd.int .u8) (w0 := w) w.heap.size rfl (.tmp 14) (.tmp 15) 22 5 (.int .u8 0) 1 rfl Try.underlying22 info5 rfl (by decide) (by omega) v143 ([] : List Int) L _ _ _ (fun _ => True) (fun _ => False) rfl rfl ?aO ?aR (fun _ _ h => h) (fun _ h => h.elim) ?aF ?aB ?aS ?aL ?_; (case aR => repeat (first | exact (Kd.C_below HC0.out HB.out) | (with_reducible refine Kd.C_alloc ?_ _) | (with_reducible refine Kd.C_drewN ?_ _) | (with_reducible refine Kd.C_drew ?_))); (case aB => exact HB.out); (case aF => exact (fun _ _ => trivial)); (case aO => exact (by (with_reducible repeat (first | apply Kd.R_alloc | apply Kd.R_drewN | apply Kd.R_drew)); exact HO144.out)); (case aS => exact (below_size HB.out)); (case aL => simp; omega); intro v146 w8 ho hb hg hat; rw [HX.out] at ho; have n0_ := Aside0.mk (hb); have n1_ := Aside0.mk (ho); clear HB; clear HO144; have HB := n0_; have HO147 := n1_; clear n0_ n1_; clear ho hb hg hat))
  obtain ⟨A5, c5, rfl, hl5, hC5⟩ := Kd.R_reads HO147.out
  have HOW := Aside0.mk (And.intro hl5 hC5)
  clear hl5 hC5 HO147
  refine (rd_read A5 c5 L w8 HOW.out.2 HOW.out.1 (by omega)).mono ?_
  rintro e w9 ⟨g, rfl, hi, hge, hb⟩
  have HI := Aside0.mk hi
  have HGE := Aside0.mk (Nat.le_trans HB.out.size hge)
  replace HB := Aside0.mk (below_step HB.out hb)
  replace HOW := Aside0.mk (And.intro HOW.out.1 (Kd.C_below HOW.out.2 hb))
  clear hi hge hb
  have HB9 := Aside0.mk (Below.refl w9.heap.size w9)
  go_wp2_with (first | ((with_reducible refine gate_dst (N := 19) rfl ?_); refine Kd.R_lit (Kd.int .u8) _ 5 ?hg (N := 19) ?hd (xs := ([] : List Int)) (inner := []) (ok := fun _ => True) (okp := fun _ => True) ?hr ?hp (fun _ hk => hk) trivial (Below.refl _ _) (Nat.le_refl _) (by simp) ?_; (case hd => rfl); (case hg => rfl); (case hr => first | (go_simp; done) | (go_simp; rfl)); (case hp => exact (Reps.none _ _)); intro v243 w6 ho7 hb hg_ hnew_; clear hg_ hnew_; have n0_ := Aside0.mk (Kd.R_lower ho7 (below_size HB9.out)); have n1_ := Aside0.mk (below_step HB9.out hb); clear HB9; have HO244 := n0_; have HB9 := n1_; clear n0_ n1_; clear hb ho7) | ((with_reducible refine gate_builtin (b := .append) (xs := #[.tmp 19, .tmp 20]) rfl ?_); at_builtin; refine Kd.R_append_rows (Kd.int .u8) (w0 := w9) w9.heap.size rfl (.tmp 19) (.tmp 20) 22 5 (.int .u8 0) 1 rfl Try.underlying22 info5 rfl (by decide) (by omega) v243 ([] : List Int) L _ _ _ (fun _ => True) (fun _ => False) rfl rfl ?aO ?aR (fun _ _ h => h) (fun _ h => h.elim) ?aF ?aB ?aS ?aL ?_; (case aR => repeat (first | exact (Kd.C_below (Kd.C_below HC0.out HB.out) HB9.out) | (with_reducible refine Kd.C_alloc ?_ _) | (with_reducible refine Kd.C_drewN ?_ _) | (with_reducible refine Kd.C_drew ?_))); (case aB => exact HB9.out); (case aF => exact (fun _ _ => trivial)); (case aO => exact (by (with_reducible repeat (first | apply Kd.R_alloc | apply Kd.R_drewN | apply Kd.R_drew)); exact HO244.out)); (case aS => exact (below_size HB9.out)); (case aL => simp; omega); intro v246 w18 ho hb hg hat; rw [HX.out] at ho; obtain ⟨A6, c6, rfl, hl6, hC6⟩ := Kd.R_reads ho; obtain ⟨d6, rfl⟩ : ∃ d, c6 = L.length + d := ⟨c6 - L.length, by omega⟩; have HC6 := Aside0.mk hC6; have n0_ := Aside0.mk (hb); clear HB9; clear HO244; have HB9 := n0_; clear n0_; clear ho hb hg hat hl6 hC6))
  have hnew := heap_alloc_new w18 (.cells #[.slice A6 L.length (L.length + d6), .int .i64 0, .int .i64 0] 28)
  have HR := Aside0.mk (RD.of (w1 := w18) (l := L) (c := d6) hnew (Nat.le_refl _) HC6.out (below_alloc (Below.refl _ _) _))
  replace HB := Aside0.mk (below_step HB.out (below_alloc HB9.out (.cells #[.slice A6 L.length (L.length + d6), .int .i64 0, .int .i64 0] 28)))
  have HNE := Aside0.mk (show w18.heap.size ≠ g by have h1 := HI.out.lt; have h2 := HB9.out.size; omega)
  have HGE2 := Aside0.mk (show w.heap.size ≤ w18.heap.size by have h1 := HI.out.lt; have h2 := HB9.out.size; have h3 := HGE.out; omega)
  replace HI := Aside0.mk (HI.out.below (below_alloc HB9.out (.cells #[.slice A6 L.length (L.length + d6), .int .i64 0, .int .i64 0] 28)))
  replace HOW := Aside0.mk (And.intro HOW.out.1 (Kd.C_below HOW.out.2 (below_alloc HB9.out (.cells #[.slice A6 L.length (L.length + d6), .int .i64 0, .int .i64 0] 28))))
  clear hnew HB9 HC6
  generalize w18.alloc _ = w10 at HB HI HOW HR ⊢
  generalize w18.heap.size = g2 at HNE HGE2 HR ⊢
  refine (cenotaphlaw06_told.calls true w10 rfl).mono ?_
  rintro e w11 ⟨rfl, hb⟩
  replace HB := Aside0.mk (below_step HB.out hb)
  replace HI := Aside0.mk (HI.out.below hb)
  replace HR := Aside0.mk (HR.out.below hb)
  replace HOW := Aside0.mk (And.intro HOW.out.1 (Kd.C_below HOW.out.2 hb))
  clear hb
  go_upto_block 0 with fail
  go_cut [] (fun wc => Aside0 (true = r) ∧ Aside0 (L.length ≤ c5 ∧ Kd.C (Kd.int .u8) wc A5 L.length L) ∧ Aside0 (Below w.heap.size w wc))
  case first =>
    go_wp2_with fail
    go_loopg [8] 61 (fun m v8 w' => ∃ (a e a2 e2 : Int) (i : Nat), v8 = .int .i64 (i : Int) ∧ RD 51 w' g L a e ∧ RD 28 w' g2 L a2 e2 ∧ Aside0 (cenotaphlaw06_WireReads.l0 k L l1 m i a e a2 e2 = some r) ∧ Aside0 (L.length ≤ c5 ∧ Kd.C (Kd.int .u8) w' A5 L.length L) ∧ Aside0 (Below w.heap.size w w'))
    case atStart => exact ⟨0, 0, 0, 0, 0, rfl, HI.out, HR.out, H, HOW, HB⟩
    case round =>
      clear H HB HI HR HOW
      obtain ⟨a, e, a2, e2, i, rfl, HI, HR, HA, HOW, HB⟩ := hrel
      replace HI := Aside0.mk HI
      replace HR := Aside0.mk HR
      cases gk with
      | zero => exact absurd HA.out (by simp [cenotaphlaw06_WireReads.l0])
      | succ m1 =>
        have H := HA.out
        clear HA
        rw [cenotaphlaw06_WireReads.l0] at H
        by_cases hc : i < l1.length ∧ i < 60
        · obtain ⟨h1, h2⟩ := hc
          rw [if_pos ⟨h1, h2⟩] at H
          have e1 : decide ((i : Int) < (l1.length : Int)) = true := decide_eq_true (by omega)
          have e2_ : decide ((i : Int) < 60) = true := decide_eq_true (by omega)
          obtain ⟨ad, ea, hx, hy⟩ := at_T31 HR1.out (i : Int) (by omega) (by omega)
          cases ea
          rw [Int.toNat_natCast] at hx hy
          have p1 := eq_true (show (0 : Int) ≤ (i : Int) by omega)
          have p2 := eq_true (show (i : Int) < (l1.length : Int) by omega)
          generalize rd_T31 l1 (i : Int) = x at H hx hy
          obtain ⟨x0, x1⟩ := x
          dsimp only at H hx hy
          have HXB := Aside0.mk hx
          have HYB := Aside0.mk hy
          clear hx hy
          have H' := Aside0.mk H
          clear H
          have hx := (HB.out.cell (World.block_lt_of_cell? w _ HXB.out)).trans HXB.out
          go_upto_if 44 with fail
          go_cut [] (fun wc => ∃ (a e a2 e2 : Int), RD 51 wc g L a e ∧ RD 28 wc g2 L a2 e2 ∧ Aside0 (cenotaphlaw06_WireReads.chk L a e a2 e2 (cenotaphlaw06_WireReads.l0 k L l1 m1 (i + 1) a e a2 e2) = some r) ∧ Aside0 (L.length ≤ c5 ∧ Kd.C (Kd.int .u8) wc A5 L.length L) ∧ Aside0 (Below w.heap.size w wc))
          case first =>
            have H := H'.out
            clear H'
            cases x0 with
            | true =>
              rw [if_pos rfl] at H
              obtain ⟨⟨t1, a', e'⟩, hnum, h3⟩ := Option.bind_eq_some_iff.mp H
              obtain ⟨⟨t2, a2', e2'⟩, hnum2, h4⟩ := Option.bind_eq_some_iff.mp h3
              dsimp only at hnum hnum2 h3 h4
              have HP := Aside0.mk hnum
              have HQ := Aside0.mk hnum2
              have HL := Aside0.mk h4
              clear H hnum h3 hnum2 h4
              have hy1 := (HB.out.cell (World.block_lt_of_cell? w _ HYB.out)).trans HYB.out
              go_upto_region 11 with fail
              refine start_ (n := 15) (S := fun w' => w'.cell? ⟨(ad.add (i * 2)).block, (ad.add (i * 2)).off + 1, none⟩ = some (.int .i64 x1) ∧ True) (ds := []) #[false, false, false, false, false, false, false, false, false, false, false, false, false, false, false] (by kernel_rfl) rfl rfl ⟨hy1, trivial⟩ (fun hHeld => ?_)
              refine pure_ (i := 0) (N := some 45) (v := ?_) (a' := ?_) #[true, false, false, false, false, false, false, false, false, false, false, false, false, false, false] rfl rfl (by kernel_rfl) (fun _ _ _ h => h) (Or.inl ⟨by rfl, ?_⟩) ?_ ?_
              rotate_left
              · intro w'
                go_simp
                with_reducible rfl
              rotate_left
              · simp only [Act.put, List.setIfInBounds_toArray, List.set_cons_zero, List.set_cons_succ, i64_w, i32_w]
                rfl
              refine pure_ (i := 1) (N := some 46) (v := ?_) (a' := ?_) #[true, true, false, false, false, false, false, false, false, false, false, false, false, false, false] rfl rfl (by kernel_rfl) (fun _ _ _ h => h) (Or.inl ⟨by rfl, ?_⟩) ?_ ?_
              rotate_left
              · intro w'
                go_simp
                with_reducible rfl
              rotate_left
              · simp only [Act.put, List.setIfInBounds_toArray, List.set_cons_zero, List.set_cons_succ, i64_w, i32_w]
                rfl
              refine pure_ (i := 2) (N := some 47) (v := ?_) (a' := ?_) #[true, true, true, false, false, false, false, false, false, false, false, false, false, false, false] rfl rfl (by kernel_rfl) (fun _ _ _ h => h) (Or.inl ⟨by rfl, ?_⟩) ?_ ?_
              rotate_left
              · intro w'
                go_simp
                with_reducible rfl
              rotate_left
              · simp only [Act.put, List.setIfInBounds_toArray, List.set_cons_zero, List.set_cons_succ, i64_w, i32_w]
                rfl
              refine pure_ (i := 3) (N := some 48) (v := ?_) (a' := ?_) #[true, true, true, true, false, false, false, false, false, false, false, false, false, false, false] rfl rfl (by kernel_rfl) (fun _ _ _ h => h) (Or.inl ⟨by rfl, ?_⟩) ?_ ?_
              rotate_left
              · intro w'
                go_simp
                with_reducible rfl
              rotate_left
              · simp only [Act.put, List.setIfInBounds_toArray, List.set_cons_zero, List.set_cons_succ, i64_w, i32_w]
                rfl
              refine pure_ (i := 4) (N := some 49) (v := ?_) (a' := ?_) #[true, true, true, true, true, false, false, false, false, false, false, false, false, false, false] rfl rfl (by kernel_rfl) (fun _ _ _ h => h) (Or.inl ⟨by rfl, ?_⟩) ?_ ?_
              rotate_left
              · intro w'
                go_simp
                with_reducible rfl
              rotate_left
              · simp only [Act.put, List.setIfInBounds_toArray, List.set_cons_zero, List.set_cons_succ, i64_w, i32_w]
                rfl
              refine take_ (i := 5) (N := some 50) (v := ?_) (a' := ?_) #[true, true, true, true, true, true, false, false, false, false, false, false, false, false, false] rfl rfl (by kernel_rfl) (fun _ _ _ h => h) (Or.inl ⟨by rfl, ?_⟩) hHeld ?_ ?_
              rotate_left
              · rintro w' ⟨s0, s1⟩
                go_simp
                with_reducible rfl
              rotate_left
              · simp only [Act.put, List.setIfInBounds_toArray, List.set_cons_zero, List.set_cons_succ, i64_w, i32_w]
                rfl
              refine pure_ (i := 7) (N := some 52) (v := ?_) (a' := ?_) #[true, true, true, true, true, true, false, true, false, false, false, false, false, false, false] rfl rfl (by kernel_rfl) (fun _ _ _ h => h) (Or.inl ⟨by rfl, ?_⟩) ?_ ?_
              rotate_left
              · intro w'
                go_simp
                with_reducible rfl
              rotate_left
              · simp only [Act.put, List.setIfInBounds_toArray, List.set_cons_zero, List.set_cons_succ, i64_w, i32_w]
                rfl
              refine pure_ (i := 8) (N := some 53) (v := ?_) (a' := ?_) #[true, true, true, true, true, true, false, true, true, false, false, false, false, false, false] rfl rfl (by kernel_rfl) (fun _ _ _ h => h) (Or.inl ⟨by rfl, ?_⟩) ?_ ?_
              rotate_left
              · intro w'
                go_simp
                with_reducible rfl
              rotate_left
              · simp only [Act.put, List.setIfInBounds_toArray, List.set_cons_zero, List.set_cons_succ, i64_w, i32_w]
                rfl
              refine pure_ (i := 9) (N := some 54) (v := ?_) (a' := ?_) #[true, true, true, true, true, true, false, true, true, true, false, false, false, false, false] rfl rfl (by kernel_rfl) (fun _ _ _ h => h) (Or.inl ⟨by rfl, ?_⟩) ?_ ?_
              rotate_left
              · intro w'
                go_simp
                with_reducible rfl
              rotate_left
              · simp only [Act.put, List.setIfInBounds_toArray, List.set_cons_zero, List.set_cons_succ, i64_w, i32_w]
                rfl
              refine pure_ (i := 10) (N := some 55) (v := ?_) (a' := ?_) #[true, true, true, true, true, true, false, true, true, true, true, false, false, false, false] rfl rfl (by kernel_rfl) (fun _ _ _ h => h) (Or.inl ⟨by rfl, ?_⟩) ?_ ?_
              rotate_left
              · intro w'
                go_simp
                with_reducible rfl
              rotate_left
              · simp only [Act.put, List.setIfInBounds_toArray, List.set_cons_zero, List.set_cons_succ, i64_w, i32_w]
                rfl
              refine pure_ (i := 11) (N := some 56) (v := ?_) (a' := ?_) #[true, true, true, true, true, true, false, true, true, true, true, true, false, false, false] rfl rfl (by kernel_rfl) (fun _ _ _ h => h) (Or.inl ⟨by rfl, ?_⟩) ?_ ?_
              rotate_left
              · intro w'
                go_simp
                with_reducible rfl
              rotate_left
              · simp only [Act.put, List.setIfInBounds_toArray, List.set_cons_zero, List.set_cons_succ, i64_w, i32_w]
                rfl
              refine take_ (i := 12) (N := some 57) (v := ?_) (a' := ?_) #[true, true, true, true, true, true, false, true, true, true, true, true, true, false, false] rfl rfl (by kernel_rfl) (fun _ _ _ h => h) (Or.inl ⟨by rfl, ?_⟩) hHeld ?_ ?_
              rotate_left
              · rintro w' ⟨s0, s1⟩
                go_simp
                with_reducible rfl
              rotate_left
              · simp only [Act.put, List.setIfInBounds_toArray, List.set_cons_zero, List.set_cons_succ, i64_w, i32_w]
                rfl
              refine one_ (i := 6) (N := some 51) #[true, true, true, true, true, true, true, true, true, true, true, true, true, false, false] rfl rfl (by kernel_rfl) (by decide) (fun K hK => ?_)
              refine goes_ Try.func11 (by kernel_rfl) rfl #[.pointer (some ⟨g, 0, none⟩), .int .i64 x1] (by rfl) rfl rfl (by (try simp only [List.map_toArray, List.map_cons, List.map_nil]); first | done | rfl) ?_
              refine (rd_text k g L a e x1 t1 a' e' _ (HI.out.below (below_drew1 (Below.refl _ _))) HP.out).mono ?_
              rintro ev w4 ⟨rfl, hi, hb, hk⟩
              refine ⟨_, rfl, ?_⟩
              replace HR := Aside0.mk (HI.out.other HR.out hk HNE.out)
              replace HOW := Aside0.mk (And.intro HOW.out.1 ((HI.out.below (below_drew1 (Below.refl _ _))).C_keep hk (Kd.C_drew HOW.out.2)))
              replace HB := Aside0.mk (hb w HGE.out (below_drew1 HB.out))
              replace HI := Aside0.mk hi
              clear hi hb hk hy1 HP
              have hy2 := (HB.out.cell (World.block_lt_of_cell? w _ HYB.out)).trans HYB.out
              refine hK.out _ _ ⟨hy2, trivial⟩ (fun hHeld => ?_)
              clear hK K
              refine norm_ (a' := ?_) ?_ ?_
              rotate_left
              · show Act.put _ (some 51) _ = _
                simp only [Act.put, List.setIfInBounds_toArray, List.set_cons_zero, List.set_cons_succ, i64_w, i32_w]
                rfl
              refine one_ (i := 13) (N := some 58) #[true, true, true, true, true, true, true, true, true, true, true, true, true, true, false] rfl rfl (by kernel_rfl) (by decide) (fun K hK => ?_)
              refine goes_ Try.func12 (by kernel_rfl) rfl #[.pointer (some ⟨g2, 0, none⟩), .int .i64 x1] (by rfl) rfl rfl (by (try simp only [List.map_toArray, List.map_cons, List.map_nil]); first | done | rfl) ?_
              refine (rf_text k g2 L a2 e2 x1 t2 a2' e2' w4 HR.out HQ.out).mono ?_
              rintro ev w5 ⟨rfl, hi, hb, hk⟩
              refine ⟨_, rfl, ?_⟩
              replace HI := Aside0.mk (HR.out.other HI.out hk (Ne.symm HNE.out))
              replace HOW := Aside0.mk (And.intro HOW.out.1 (HR.out.C_keep hk HOW.out.2))
              replace HB := Aside0.mk (hb w HGE2.out HB.out)
              replace HR := Aside0.mk hi
              clear hi hb hk hy2 HQ
              have hy3 := (HB.out.cell (World.block_lt_of_cell? w _ HYB.out)).trans HYB.out
              refine hK.out _ _ ⟨hy3, trivial⟩ (fun hHeld => ?_)
              clear hK K
              refine norm_ (a' := ?_) ?_ ?_
              rotate_left
              · show Act.put _ (some 58) _ = _
                simp only [Act.put, List.setIfInBounds_toArray, List.set_cons_zero, List.set_cons_succ, i64_w, i32_w]
                rfl
              refine pure_ (i := 14) (N := some 59) (v := ?_) (a' := ?_) #[true, true, true, true, true, true, true, true, true, true, true, true, true, true, true] rfl rfl (by kernel_rfl) (fun _ _ _ h => h) (Or.inl ⟨by rfl, ?_⟩) ?_ ?_
              rotate_left
              · intro w'
                go_simp
                with_reducible rfl
              rotate_left
              · simp only [Act.put, List.setIfInBounds_toArray, List.set_cons_zero, List.set_cons_succ, i64_w, i32_w]
                rfl
              refine done_ (by kernel_rfl) ?_
              clear hy3
              by_cases hn : t1.toList = t2.toList
              · have hn1 : (t1.toList == t2.toList) = true := beq_iff_eq.mpr hn
                rw [hn1, show (!true) = false from rfl]
                replace HL := Aside0.mk ((if_pos hn).symm.trans HL.out)
                clear hn
                go_wp2_with fail
                go_meet
                case rel => exact ⟨a', e', a2', e2', HI.out, HR.out, HL, HOW, HB⟩
              · have hn1 : (t1.toList == t2.toList) = false := beq_eq_false_iff_ne.mpr hn
                rw [hn1, show (!false) = true from rfl]
                replace HL := Aside0.mk ((if_neg hn).symm.trans HL.out)
                obtain rfl := Option.some.inj HL.out
                clear HL hn
                go_wp2_with fail
                go_ret
                exact ⟨rfl, HB.out⟩
            | false =>
              rw [if_neg (by decide)] at H
              obtain ⟨⟨t1, a', e'⟩, hnum, h3⟩ := Option.bind_eq_some_iff.mp H
              obtain ⟨⟨t2, a2', e2'⟩, hnum2, h4⟩ := Option.bind_eq_some_iff.mp h3
              dsimp only at hnum hnum2 h3 h4
              have HP := Aside0.mk hnum
              have HQ := Aside0.mk hnum2
              have HL := Aside0.mk h4
              clear H hnum h3 hnum2 h4
              have hy1 := (HB.out.cell (World.block_lt_of_cell? w _ HYB.out)).trans HYB.out
              go_upto_region 13 with fail
              refine start_ (n := 15) (S := fun w' => w'.cell? ⟨(ad.add (i * 2)).block, (ad.add (i * 2)).off + 1, none⟩ = some (.int .i64 x1) ∧ True) (ds := []) #[false, false, false, false, false, false, false, false, false, false, false, false, false, false, false] (by kernel_rfl) rfl rfl ⟨hy1, trivial⟩ (fun hHeld => ?_)
              refine pure_ (i := 0) (N := some 60) (v := ?_) (a' := ?_) #[true, false, false, false, false, false, false, false, false, false, false, false, false, false, false] rfl rfl (by kernel_rfl) (fun _ _ _ h => h) (Or.inl ⟨by rfl, ?_⟩) ?_ ?_
              rotate_left
              · intro w'
                go_simp
                with_reducible rfl
              rotate_left
              · simp only [Act.put, List.setIfInBounds_toArray, List.set_cons_zero, List.set_cons_succ, i64_w, i32_w]
                rfl
              refine pure_ (i := 1) (N := some 61) (v := ?_) (a' := ?_) #[true, true, false, false, false, false, false, false, false, false, false, false, false, false, false] rfl rfl (by kernel_rfl) (fun _ _ _ h => h) (Or.inl ⟨by rfl, ?_⟩) ?_ ?_
              rotate_left
              · intro w'
                go_simp
                with_reducible rfl
              rotate_left
              · simp only [Act.put, List.setIfInBounds_toArray, List.set_cons_zero, List.set_cons_succ, i64_w, i32_w]
                rfl
              refine pure_ (i := 2) (N := some 62) (v := ?_) (a' := ?_) #[true, true, true, false, false, false, false, false, false, false, false, false, false, false, false] rfl rfl (by kernel_rfl) (fun _ _ _ h => h) (Or.inl ⟨by rfl, ?_⟩) ?_ ?_
              rotate_left
              · intro w'
                go_simp
                with_reducible rfl
              rotate_left
              · simp only [Act.put, List.setIfInBounds_toArray, List.set_cons_zero, List.set_cons_succ, i64_w, i32_w]
                rfl
              refine pure_ (i := 3) (N := some 63) (v := ?_) (a' := ?_) #[true, true, true, true, false, false, false, false, false, false, false, false, false, false, false] rfl rfl (by kernel_rfl) (fun _ _ _ h => h) (Or.inl ⟨by rfl, ?_⟩) ?_ ?_
              rotate_left
              · intro w'
                go_simp
                with_reducible rfl
              rotate_left
              · simp only [Act.put, List.setIfInBounds_toArray, List.set_cons_zero, List.set_cons_succ, i64_w, i32_w]
                rfl
              refine pure_ (i := 4) (N := some 64) (v := ?_) (a' := ?_) #[true, true, true, true, true, false, false, false, false, false, false, false, false, false, false] rfl rfl (by kernel_rfl) (fun _ _ _ h => h) (Or.inl ⟨by rfl, ?_⟩) ?_ ?_
              rotate_left
              · intro w'
                go_simp
                with_reducible rfl
              rotate_left
              · simp only [Act.put, List.setIfInBounds_toArray, List.set_cons_zero, List.set_cons_succ, i64_w, i32_w]
                rfl
              refine take_ (i := 5) (N := some 65) (v := ?_) (a' := ?_) #[true, true, true, true, true, true, false, false, false, false, false, false, false, false, false] rfl rfl (by kernel_rfl) (fun _ _ _ h => h) (Or.inl ⟨by rfl, ?_⟩) hHeld ?_ ?_
              rotate_left
              · rintro w' ⟨s0, s1⟩
                go_simp
                with_reducible rfl
              rotate_left
              · simp only [Act.put, List.setIfInBounds_toArray, List.set_cons_zero, List.set_cons_succ, i64_w, i32_w]
                rfl
              refine pure_ (i := 7) (N := some 67) (v := ?_) (a' := ?_) #[true, true, true, true, true, true, false, true, false, false, false, false, false, false, false] rfl rfl (by kernel_rfl) (fun _ _ _ h => h) (Or.inl ⟨by rfl, ?_⟩) ?_ ?_
              rotate_left
              · intro w'
                go_simp
                with_reducible rfl
              rotate_left
              · simp only [Act.put, List.setIfInBounds_toArray, List.set_cons_zero, List.set_cons_succ, i64_w, i32_w]
                rfl
              refine pure_ (i := 8) (N := some 68) (v := ?_) (a' := ?_) #[true, true, true, true, true, true, false, true, true, false, false, false, false, false, false] rfl rfl (by kernel_rfl) (fun _ _ _ h => h) (Or.inl ⟨by rfl, ?_⟩) ?_ ?_
              rotate_left
              · intro w'
                go_simp
                with_reducible rfl
              rotate_left
              · simp only [Act.put, List.setIfInBounds_toArray, List.set_cons_zero, List.set_cons_succ, i64_w, i32_w]
                rfl
              refine pure_ (i := 9) (N := some 69) (v := ?_) (a' := ?_) #[true, true, true, true, true, true, false, true, true, true, false, false, false, false, false] rfl rfl (by kernel_rfl) (fun _ _ _ h => h) (Or.inl ⟨by rfl, ?_⟩) ?_ ?_
              rotate_left
              · intro w'
                go_simp
                with_reducible rfl
              rotate_left
              · simp only [Act.put, List.setIfInBounds_toArray, List.set_cons_zero, List.set_cons_succ, i64_w, i32_w]
                rfl
              refine pure_ (i := 10) (N := some 70) (v := ?_) (a' := ?_) #[true, true, true, true, true, true, false, true, true, true, true, false, false, false, false] rfl rfl (by kernel_rfl) (fun _ _ _ h => h) (Or.inl ⟨by rfl, ?_⟩) ?_ ?_
              rotate_left
              · intro w'
                go_simp
                with_reducible rfl
              rotate_left
              · simp only [Act.put, List.setIfInBounds_toArray, List.set_cons_zero, List.set_cons_succ, i64_w, i32_w]
                rfl
              refine pure_ (i := 11) (N := some 71) (v := ?_) (a' := ?_) #[true, true, true, true, true, true, false, true, true, true, true, true, false, false, false] rfl rfl (by kernel_rfl) (fun _ _ _ h => h) (Or.inl ⟨by rfl, ?_⟩) ?_ ?_
              rotate_left
              · intro w'
                go_simp
                with_reducible rfl
              rotate_left
              · simp only [Act.put, List.setIfInBounds_toArray, List.set_cons_zero, List.set_cons_succ, i64_w, i32_w]
                rfl
              refine take_ (i := 12) (N := some 72) (v := ?_) (a' := ?_) #[true, true, true, true, true, true, false, true, true, true, true, true, true, false, false] rfl rfl (by kernel_rfl) (fun _ _ _ h => h) (Or.inl ⟨by rfl, ?_⟩) hHeld ?_ ?_
              rotate_left
              · rintro w' ⟨s0, s1⟩
                go_simp
                with_reducible rfl
              rotate_left
              · simp only [Act.put, List.setIfInBounds_toArray, List.set_cons_zero, List.set_cons_succ, i64_w, i32_w]
                rfl
              refine one_ (i := 6) (N := some 66) #[true, true, true, true, true, true, true, true, true, true, true, true, true, false, false] rfl rfl (by kernel_rfl) (by decide) (fun K hK => ?_)
              refine goes_ Try.func13 (by kernel_rfl) rfl #[.pointer (some ⟨g, 0, none⟩), .int .i64 x1] (by rfl) rfl rfl (by (try simp only [List.map_toArray, List.map_cons, List.map_nil]); first | done | rfl) ?_
              refine (rd_num k g L a e x1 t1 a' e' _ (HI.out.below (below_drew1 (Below.refl _ _))) HP.out).mono ?_
              rintro ev w4 ⟨rfl, hi, hb, hk⟩
              refine ⟨_, rfl, ?_⟩
              replace HR := Aside0.mk (HI.out.other HR.out hk HNE.out)
              replace HOW := Aside0.mk (And.intro HOW.out.1 ((HI.out.below (below_drew1 (Below.refl _ _))).C_keep hk (Kd.C_drew HOW.out.2)))
              replace HB := Aside0.mk (hb w HGE.out (below_drew1 HB.out))
              replace HI := Aside0.mk hi
              clear hi hb hk hy1 HP
              have hy2 := (HB.out.cell (World.block_lt_of_cell? w _ HYB.out)).trans HYB.out
              refine hK.out _ _ ⟨hy2, trivial⟩ (fun hHeld => ?_)
              clear hK K
              refine norm_ (a' := ?_) ?_ ?_
              rotate_left
              · show Act.put _ (some 66) _ = _
                simp only [Act.put, List.setIfInBounds_toArray, List.set_cons_zero, List.set_cons_succ, i64_w, i32_w]
                rfl
              refine one_ (i := 13) (N := some 73) #[true, true, true, true, true, true, true, true, true, true, true, true, true, true, false] rfl rfl (by kernel_rfl) (by decide) (fun K hK => ?_)
              refine goes_ Try.func14 (by kernel_rfl) rfl #[.pointer (some ⟨g2, 0, none⟩), .int .i64 x1] (by rfl) rfl rfl (by (try simp only [List.map_toArray, List.map_cons, List.map_nil]); first | done | rfl) ?_
              refine (rf_num k g2 L a2 e2 x1 t2 a2' e2' w4 HR.out HQ.out).mono ?_
              rintro ev w5 ⟨rfl, hi, hb, hk⟩
              refine ⟨_, rfl, ?_⟩
              replace HI := Aside0.mk (HR.out.other HI.out hk (Ne.symm HNE.out))
              replace HOW := Aside0.mk (And.intro HOW.out.1 (HR.out.C_keep hk HOW.out.2))
              replace HB := Aside0.mk (hb w HGE2.out HB.out)
              replace HR := Aside0.mk hi
              clear hi hb hk hy2 HQ
              have hy3 := (HB.out.cell (World.block_lt_of_cell? w _ HYB.out)).trans HYB.out
              refine hK.out _ _ ⟨hy3, trivial⟩ (fun hHeld => ?_)
              clear hK K
              refine norm_ (a' := ?_) ?_ ?_
              rotate_left
              · show Act.put _ (some 73) _ = _
                simp only [Act.put, List.setIfInBounds_toArray, List.set_cons_zero, List.set_cons_succ, i64_w, i32_w]
                rfl
              refine pure_ (i := 14) (N := some 74) (v := ?_) (a' := ?_) #[true, true, true, true, true, true, true, true, true, true, true, true, true, true, true] rfl rfl (by kernel_rfl) (fun _ _ _ h => h) (Or.inl ⟨by rfl, ?_⟩) ?_ ?_
              rotate_left
              · intro w'
                go_simp
                with_reducible rfl
              rotate_left
              · simp only [Act.put, List.setIfInBounds_toArray, List.set_cons_zero, List.set_cons_succ, i64_w, i32_w]
                rfl
              refine done_ (by kernel_rfl) ?_
              clear hy3
              by_cases hn : t1 = t2
              · have hn1 : (t1 != t2) = false := bne_eq_false_iff_eq.mpr hn
                replace HL := Aside0.mk ((if_pos hn).symm.trans HL.out)
                clear hn
                go_wp2_with fail
                go_meet
                case rel => exact ⟨a', e', a2', e2', HI.out, HR.out, HL, HOW, HB⟩
              · have hn1 : (t1 != t2) = true := bne_iff_ne.mpr hn
                replace HL := Aside0.mk ((if_neg hn).symm.trans HL.out)
                obtain rfl := Option.some.inj HL.out
                clear HL hn
                go_wp2_with fail
                go_ret
                exact ⟨rfl, HB.out⟩
          case rest =>
            clear H' HI HR HOW HB hx
            clear a e a2 e2
            obtain ⟨a, e, a2, e2, HI, HR, HL, HOW, HB⟩ := hcut
            replace HI := Aside0.mk HI
            replace HR := Aside0.mk HR
            rw [cenotaphlaw06_WireReads.chk] at HL
            have hz := rf_cell HR.out
            replace hz : wc.drew.cell? ⟨g2, 2, none⟩ = some (.int .i64 e2) := hz
            go_upto_region 15 with fail
            by_cases he : e = e2
            rotate_left
            · have hne : (e != e2) = true := bne_iff_ne.mpr he
              replace HL := Aside0.mk ((if_neg he).symm.trans HL.out)
              obtain rfl := Option.some.inj HL.out
              clear HL
              refine start_ (n := 14) (S := fun w' => w'.cell? ⟨g2, 2, none⟩ = some (.int .i64 e2) ∧ True) (ds := []) #[false, false, false, false, false, false, false, false, false, false, false, false, false, false] (by kernel_rfl) rfl rfl ⟨hz, trivial⟩ (fun hHeld => ?_)
              refine pure_ (i := 0) (N := some 75) (v := ?_) (a' := ?_) #[true, false, false, false, false, false, false, false, false, false, false, false, false, false] rfl rfl (by kernel_rfl) (fun _ _ _ h => h) (Or.inl ⟨by rfl, ?_⟩) ?_ ?_
              rotate_left
              · intro w'
                go_simp
                with_reducible rfl
              rotate_left
              · simp only [Act.put, List.setIfInBounds_toArray, List.set_cons_zero, List.set_cons_succ, i64_w, i32_w]
                rfl
              refine pure_ (i := 2) (N := some 77) (v := ?_) (a' := ?_) #[true, false, true, false, false, false, false, false, false, false, false, false, false, false] rfl rfl (by kernel_rfl) (fun _ _ _ h => h) (Or.inl ⟨by rfl, ?_⟩) ?_ ?_
              rotate_left
              · intro w'
                go_simp
                with_reducible rfl
              rotate_left
              · simp only [Act.put, List.setIfInBounds_toArray, List.set_cons_zero, List.set_cons_succ, i64_w, i32_w]
                rfl
              refine pure_ (i := 3) (N := some 78) (v := ?_) (a' := ?_) #[true, false, true, true, false, false, false, false, false, false, false, false, false, false] rfl rfl (by kernel_rfl) (fun _ _ _ h => h) (Or.inl ⟨by rfl, ?_⟩) ?_ ?_
              rotate_left
              · intro w'
                go_simp
                with_reducible rfl
              rotate_left
              · simp only [Act.put, List.setIfInBounds_toArray, List.set_cons_zero, List.set_cons_succ, i64_w, i32_w]
                rfl
              refine pure_ (i := 4) (N := some 79) (v := ?_) (a' := ?_) #[true, false, true, true, true, false, false, false, false, false, false, false, false, false] rfl rfl (by kernel_rfl) (fun _ _ _ h => h) (Or.inl ⟨by rfl, ?_⟩) ?_ ?_
              rotate_left
              · intro w'
                go_simp
                with_reducible rfl
              rotate_left
              · simp only [Act.put, List.setIfInBounds_toArray, List.set_cons_zero, List.set_cons_succ, i64_w, i32_w]
                rfl
              refine take_ (i := 5) (N := some 80) (v := ?_) (a' := ?_) #[true, false, true, true, true, true, false, false, false, false, false, false, false, false] rfl rfl (by kernel_rfl) (fun _ _ _ h => h) (Or.inl ⟨by rfl, ?_⟩) hHeld ?_ ?_
              rotate_left
              · rintro w' ⟨s0, s1⟩
                go_simp
                with_reducible rfl
              rotate_left
              · simp only [Act.put, List.setIfInBounds_toArray, List.set_cons_zero, List.set_cons_succ, i64_w, i32_w]
                rfl
              refine one_ (i := 1) (N := some 76) #[true, true, true, true, true, true, false, false, false, false, false, false, false, false] rfl rfl (by kernel_rfl) (by decide) (fun K hK => ?_)
              refine goes_ Try.func15 (by kernel_rfl) rfl #[.pointer (some ⟨g, 0, none⟩)] (by rfl) rfl rfl (by (try simp only [List.map_toArray, List.map_cons, List.map_nil]); first | done | rfl) ?_
              refine (rd_err g L a e _ (HI.out.below (below_drew1 (Below.refl _ _)))).mono ?_
              rintro ev w4 ⟨rfl, hi, hb, hk⟩
              refine ⟨_, rfl, ?_⟩
              replace HR := Aside0.mk (HI.out.other HR.out hk HNE.out)
              replace HOW := Aside0.mk (And.intro HOW.out.1 ((HI.out.below (below_drew1 (Below.refl _ _))).C_keep hk (Kd.C_drew HOW.out.2)))
              replace HB := Aside0.mk (hb w HGE.out (below_drew1 HB.out))
              replace HI := Aside0.mk hi
              clear hi hb hk hz
              have hz := rf_cell HR.out
              refine hK.out _ _ ⟨hz, trivial⟩ (fun hHeld => ?_)
              clear hK K
              refine norm_ (a' := ?_) ?_ ?_
              rotate_left
              · show Act.put _ (some 76) _ = _
                simp only [Act.put, List.setIfInBounds_toArray, List.set_cons_zero, List.set_cons_succ, i64_w, i32_w]
                rfl
              refine pure_ (i := 6) (N := some 81) (v := ?_) (a' := ?_) #[true, true, true, true, true, true, true, false, false, false, false, false, false, false] rfl rfl (by kernel_rfl) (fun _ _ _ h => h) (Or.inl ⟨by rfl, ?_⟩) ?_ ?_
              rotate_left
              · intro w'
                go_simp
                with_reducible rfl
              rotate_left
              · simp only [Act.put, List.setIfInBounds_toArray, List.set_cons_zero, List.set_cons_succ, i64_w, i32_w]
                rfl
              refine pure_ (i := 7) (N := some 82) (v := ?_) (a' := ?_) #[true, true, true, true, true, true, true, true, false, false, false, false, false, false] rfl rfl (by kernel_rfl) (fun _ _ _ h => h) (Or.inl ⟨by rfl, ?_⟩) ?_ ?_
              rotate_left
              · intro w'
                go_simp
                with_reducible rfl
              rotate_left
              · simp only [Act.put, List.setIfInBounds_toArray, List.set_cons_zero, List.set_cons_succ, i64_w, i32_w]
                rfl
              refine pure_ (i := 8) (N := some 83) (v := undef) (a' := ?_) #[true, true, true, true, true, true, true, true, true, false, false, false, false, false] rfl rfl (by kernel_rfl) (fun _ _ _ h => h) (Or.inr ⟨by rfl, rfl⟩) ?_ ?_
              rotate_left
              · simp only [Act.put, List.setIfInBounds_toArray, List.set_cons_zero, List.set_cons_succ]
                rfl
              refine pure_ (i := 9) (N := some 84) (v := undef) (a' := ?_) #[true, true, true, true, true, true, true, true, true, true, false, false, false, false] rfl rfl (by kernel_rfl) (fun _ _ _ h => h) (Or.inr ⟨by rfl, rfl⟩) ?_ ?_
              rotate_left
              · simp only [Act.put, List.setIfInBounds_toArray, List.set_cons_zero, List.set_cons_succ]
                rfl
              refine pure_ (i := 10) (N := some 85) (v := undef) (a' := ?_) #[true, true, true, true, true, true, true, true, true, true, true, false, false, false] rfl rfl (by kernel_rfl) (fun _ _ _ h => h) (Or.inr ⟨by rfl, rfl⟩) ?_ ?_
              rotate_left
              · simp only [Act.put, List.setIfInBounds_toArray, List.set_cons_zero, List.set_cons_succ]
                rfl
              refine pure_ (i := 11) (N := some 86) (v := undef) (a' := ?_) #[true, true, true, true, true, true, true, true, true, true, true, true, false, false] rfl rfl (by kernel_rfl) (fun _ _ _ h => h) (Or.inr ⟨by rfl, rfl⟩) ?_ ?_
              rotate_left
              · simp only [Act.put, List.setIfInBounds_toArray, List.set_cons_zero, List.set_cons_succ]
                rfl
              refine pure_ (i := 12) (N := some 87) (v := undef) (a' := ?_) #[true, true, true, true, true, true, true, true, true, true, true, true, true, false] rfl rfl (by kernel_rfl) (fun _ _ _ h => h) (Or.inr ⟨by rfl, rfl⟩) ?_ ?_
              rotate_left
              · simp only [Act.put, List.setIfInBounds_toArray, List.set_cons_zero, List.set_cons_succ]
                rfl
              refine pure_ (i := 13) (N := some 88) (v := ?_) (a' := ?_) #[true, true, true, true, true, true, true, true, true, true, true, true, true, true] rfl rfl (by kernel_rfl) (fun _ _ _ h => h) (Or.inl ⟨by rfl, ?_⟩) ?_ ?_
              rotate_left
              · intro w'
                go_simp
                with_reducible rfl
              rotate_left
              · simp only [Act.put, List.setIfInBounds_toArray, List.set_cons_zero, List.set_cons_succ, i64_w, i32_w]
                rfl
              refine done_ (by kernel_rfl) ?_
              clear hz
              go_wp2_with fail
              go_ret
              exact ⟨rfl, HB.out⟩
            have hne : (e != e2) = false := bne_eq_false_iff_eq.mpr he
            replace HL := Aside0.mk ((if_pos he).symm.trans HL.out)
            have HHE := Aside0.mk he
            clear he
            have HED := Aside0.mk (fun (W : World) (hi : RD 51 W g L a e) => rd_end g L a e W hi)
            have HEF := Aside0.mk (fun (W : World) (hi : RD 28 W g2 L a2 e2) => rf_end g2 L a2 e2 W hi)
            obtain ⟨d1, hd1⟩ : ∃ d, rEnd L a e = d := ⟨_, rfl⟩
            obtain ⟨d2, hd2⟩ : ∃ d, rEnd L a2 e2 = d := ⟨_, rfl⟩
            rw [hd1, hd2] at HL
            rw [rEnd] at hd1 hd2
            rw [hd1] at HED
            rw [hd2] at HEF
            clear hd1 hd2
            refine start_ (n := 14) (S := fun w' => w'.cell? ⟨g2, 2, none⟩ = some (.int .i64 e2) ∧ True) (ds := []) #[false, false, false, false, false, false, false, false, false, false, false, false, false, false] (by kernel_rfl) rfl rfl ⟨hz, trivial⟩ (fun hHeld => ?_)
            refine pure_ (i := 0) (N := some 75) (v := ?_) (a' := ?_) #[true, false, false, false, false, false, false, false, false, false, false, false, false, false] rfl rfl (by kernel_rfl) (fun _ _ _ h => h) (Or.inl ⟨by rfl, ?_⟩) ?_ ?_
            rotate_left
            · intro w'
              go_simp
              with_reducible rfl
            rotate_left
            · simp only [Act.put, List.setIfInBounds_toArray, List.set_cons_zero, List.set_cons_succ, i64_w, i32_w]
              rfl
            refine pure_ (i := 2) (N := some 77) (v := ?_) (a' := ?_) #[true, false, true, false, false, false, false, false, false, false, false, false, false, false] rfl rfl (by kernel_rfl) (fun _ _ _ h => h) (Or.inl ⟨by rfl, ?_⟩) ?_ ?_
            rotate_left
            · intro w'
              go_simp
              with_reducible rfl
            rotate_left
            · simp only [Act.put, List.setIfInBounds_toArray, List.set_cons_zero, List.set_cons_succ, i64_w, i32_w]
              rfl
            refine pure_ (i := 3) (N := some 78) (v := ?_) (a' := ?_) #[true, false, true, true, false, false, false, false, false, false, false, false, false, false] rfl rfl (by kernel_rfl) (fun _ _ _ h => h) (Or.inl ⟨by rfl, ?_⟩) ?_ ?_
            rotate_left
            · intro w'
              go_simp
              with_reducible rfl
            rotate_left
            · simp only [Act.put, List.setIfInBounds_toArray, List.set_cons_zero, List.set_cons_succ, i64_w, i32_w]
              rfl
            refine pure_ (i := 4) (N := some 79) (v := ?_) (a' := ?_) #[true, false, true, true, true, false, false, false, false, false, false, false, false, false] rfl rfl (by kernel_rfl) (fun _ _ _ h => h) (Or.inl ⟨by rfl, ?_⟩) ?_ ?_
            rotate_left
            · intro w'
              go_simp
              with_reducible rfl
            rotate_left
            · simp only [Act.put, List.setIfInBounds_toArray, List.set_cons_zero, List.set_cons_succ, i64_w, i32_w]
              rfl
            refine take_ (i := 5) (N := some 80) (v := ?_) (a' := ?_) #[true, false, true, true, true, true, false, false, false, false, false, false, false, false] rfl rfl (by kernel_rfl) (fun _ _ _ h => h) (Or.inl ⟨by rfl, ?_⟩) hHeld ?_ ?_
            rotate_left
            · rintro w' ⟨s0, s1⟩
              go_simp
              with_reducible rfl
            rotate_left
            · simp only [Act.put, List.setIfInBounds_toArray, List.set_cons_zero, List.set_cons_succ, i64_w, i32_w]
              rfl
            refine one_ (i := 1) (N := some 76) #[true, true, true, true, true, true, false, false, false, false, false, false, false, false] rfl rfl (by kernel_rfl) (by decide) (fun K hK => ?_)
            refine goes_ Try.func15 (by kernel_rfl) rfl #[.pointer (some ⟨g, 0, none⟩)] (by rfl) rfl rfl (by (try simp only [List.map_toArray, List.map_cons, List.map_nil]); first | done | rfl) ?_
            refine (rd_err g L a e _ (HI.out.below (below_drew1 (Below.refl _ _)))).mono ?_
            rintro ev w4 ⟨rfl, hi, hb, hk⟩
            refine ⟨_, rfl, ?_⟩
            replace HR := Aside0.mk (HI.out.other HR.out hk HNE.out)
            replace HOW := Aside0.mk (And.intro HOW.out.1 ((HI.out.below (below_drew1 (Below.refl _ _))).C_keep hk (Kd.C_drew HOW.out.2)))
            replace HB := Aside0.mk (hb w HGE.out (below_drew1 HB.out))
            replace HI := Aside0.mk hi
            clear hi hb hk hz
            have hz := rf_cell HR.out
            refine hK.out _ _ ⟨hz, trivial⟩ (fun hHeld => ?_)
            clear hK K
            refine norm_ (a' := ?_) ?_ ?_
            rotate_left
            · show Act.put _ (some 76) _ = _
              simp only [Act.put, List.setIfInBounds_toArray, List.set_cons_zero, List.set_cons_succ, i64_w, i32_w]
              rfl
            refine pure_ (i := 6) (N := some 81) (v := ?_) (a' := ?_) #[true, true, true, true, true, true, true, false, false, false, false, false, false, false] rfl rfl (by kernel_rfl) (fun _ _ _ h => h) (Or.inl ⟨by rfl, ?_⟩) ?_ ?_
            rotate_left
            · intro w'
              go_simp
              with_reducible rfl
            rotate_left
            · simp only [Act.put, List.setIfInBounds_toArray, List.set_cons_zero, List.set_cons_succ, i64_w, i32_w]
              rfl
            refine pure_ (i := 7) (N := some 82) (v := ?_) (a' := ?_) #[true, true, true, true, true, true, true, true, false, false, false, false, false, false] rfl rfl (by kernel_rfl) (fun _ _ _ h => h) (Or.inl ⟨by rfl, ?_⟩) ?_ ?_
            rotate_left
            · intro w'
              go_simp
              with_reducible rfl
            rotate_left
            · simp only [Act.put, List.setIfInBounds_toArray, List.set_cons_zero, List.set_cons_succ, i64_w, i32_w]
              rfl
            refine pure_ (i := 8) (N := some 83) (v := ?_) (a' := ?_) #[true, true, true, true, true, true, true, true, true, false, false, false, false, false] rfl rfl (by kernel_rfl) (fun _ _ _ h => h) (Or.inl ⟨by rfl, ?_⟩) ?_ ?_
            rotate_left
            · intro w'
              go_simp
              with_reducible rfl
            rotate_left
            · simp only [Act.put, List.setIfInBounds_toArray, List.set_cons_zero, List.set_cons_succ, i64_w, i32_w]
              rfl
            refine pure_ (i := 10) (N := some 85) (v := ?_) (a' := ?_) #[true, true, true, true, true, true, true, true, true, false, true, false, false, false] rfl rfl (by kernel_rfl) (fun _ _ _ h => h) (Or.inl ⟨by rfl, ?_⟩) ?_ ?_
            rotate_left
            · intro w'
              go_simp
              with_reducible rfl
            rotate_left
            · simp only [Act.put, List.setIfInBounds_toArray, List.set_cons_zero, List.set_cons_succ, i64_w, i32_w]
              rfl
            refine one_ (i := 9) (N := some 84) #[true, true, true, true, true, true, true, true, true, true, true, false, false, false] rfl rfl (by kernel_rfl) (by decide) (fun K hK => ?_)
            refine goes_ Try.func16 (by kernel_rfl) rfl #[.pointer (some ⟨g, 0, none⟩)] (by rfl) rfl rfl (by (try simp only [List.map_toArray, List.map_cons, List.map_nil]); first | done | rfl) ?_
            refine (HED.out w4 HI.out).mono ?_
            rintro ev w5 ⟨rfl, hi, hb, hk⟩
            refine ⟨_, rfl, ?_⟩
            replace HR := Aside0.mk (HI.out.other HR.out hk HNE.out)
            replace HOW := Aside0.mk (And.intro HOW.out.1 (HI.out.C_keep hk HOW.out.2))
            replace HB := Aside0.mk (hb w HGE.out HB.out)
            replace HI := Aside0.mk hi
            clear hi hb hk hz
            have hz := rf_cell HR.out
            refine hK.out _ _ ⟨hz, trivial⟩ (fun hHeld => ?_)
            clear hK K
            refine norm_ (a' := ?_) ?_ ?_
            rotate_left
            · show Act.put _ (some 84) _ = _
              simp only [Act.put, List.setIfInBounds_toArray, List.set_cons_zero, List.set_cons_succ, i64_w, i32_w]
              rfl
            refine one_ (i := 11) (N := some 86) #[true, true, true, true, true, true, true, true, true, true, true, true, false, false] rfl rfl (by kernel_rfl) (by decide) (fun K hK => ?_)
            refine goes_ Try.func17 (by kernel_rfl) rfl #[.pointer (some ⟨g2, 0, none⟩)] (by rfl) rfl rfl (by (try simp only [List.map_toArray, List.map_cons, List.map_nil]); first | done | rfl) ?_
            refine (HEF.out w5 HR.out).mono ?_
            rintro ev w6 ⟨rfl, hi, hb, hk⟩
            refine ⟨_, rfl, ?_⟩
            replace HI := Aside0.mk (HR.out.other HI.out hk (Ne.symm HNE.out))
            replace HOW := Aside0.mk (And.intro HOW.out.1 (HR.out.C_keep hk HOW.out.2))
            replace HB := Aside0.mk (hb w HGE2.out HB.out)
            replace HR := Aside0.mk hi
            clear hi hb hk hz
            have hz := rf_cell HR.out
            refine hK.out _ _ ⟨hz, trivial⟩ (fun hHeld => ?_)
            clear hK K HED HEF
            refine norm_ (a' := ?_) ?_ ?_
            rotate_left
            · show Act.put _ (some 86) _ = _
              simp only [Act.put, List.setIfInBounds_toArray, List.set_cons_zero, List.set_cons_succ, i64_w, i32_w]
              rfl
            have hw : wrap64 ((i : Int) + 1) = ((i + 1 : Nat) : Int) := by rw [Go.Proofs.Ytgkcdmhndplejaa.Pure.wrap_id (by omega) (by omega)]; omega
            by_cases hn : d1 = d2
            · have hn1 : (d1 != d2) = false := bne_eq_false_iff_eq.mpr hn
              replace HL := Aside0.mk ((if_pos hn).symm.trans HL.out)
              clear hn
              refine pure_ (i := 12) (N := some 87) (v := ?_) (a' := ?_) #[true, true, true, true, true, true, true, true, true, true, true, true, true, false] rfl rfl (by kernel_rfl) (fun _ _ _ h => h) (Or.inl ⟨by rfl, ?_⟩) ?_ ?_
              rotate_left
              · intro w'
                go_simp
                with_reducible rfl
              rotate_left
              · simp only [Act.put, List.setIfInBounds_toArray, List.set_cons_zero, List.set_cons_succ, i64_w, i32_w]
                rfl
              refine pure_ (i := 13) (N := some 88) (v := ?_) (a' := ?_) #[true, true, true, true, true, true, true, true, true, true, true, true, true, true] rfl rfl (by kernel_rfl) (fun _ _ _ h => h) (Or.inl ⟨by rfl, ?_⟩) ?_ ?_
              rotate_left
              · intro w'
                go_simp
                with_reducible rfl
              rotate_left
              · simp only [Act.put, List.setIfInBounds_toArray, List.set_cons_zero, List.set_cons_succ, i64_w, i32_w]
                rfl
              refine done_ (by kernel_rfl) ?_
              clear hz
              go_wp2_with fail
              go_roundg m1
              case measure => omega
              case rel => exact ⟨a, e, a2, e2, i + 1, by simp, HI.out, HR.out, HL, HOW, HB⟩
            · have hn1 : (d1 != d2) = true := bne_iff_ne.mpr hn
              replace HL := Aside0.mk ((if_neg hn).symm.trans HL.out)
              obtain rfl := Option.some.inj HL.out
              clear HL hn
              refine pure_ (i := 12) (N := some 87) (v := ?_) (a' := ?_) #[true, true, true, true, true, true, true, true, true, true, true, true, true, false] rfl rfl (by kernel_rfl) (fun _ _ _ h => h) (Or.inl ⟨by rfl, ?_⟩) ?_ ?_
              rotate_left
              · intro w'
                go_simp
                with_reducible rfl
              rotate_left
              · simp only [Act.put, List.setIfInBounds_toArray, List.set_cons_zero, List.set_cons_succ, i64_w, i32_w]
                rfl
              refine pure_ (i := 13) (N := some 88) (v := ?_) (a' := ?_) #[true, true, true, true, true, true, true, true, true, true, true, true, true, true] rfl rfl (by kernel_rfl) (fun _ _ _ h => h) (Or.inl ⟨by rfl, ?_⟩) ?_ ?_
              rotate_left
              · intro w'
                go_simp
                with_reducible rfl
              rotate_left
              · simp only [Act.put, List.setIfInBounds_toArray, List.set_cons_zero, List.set_cons_succ, i64_w, i32_w]
                rfl
              refine done_ (by kernel_rfl) ?_
              clear hz
              go_wp2_with fail
              go_ret
              exact ⟨rfl, HB.out⟩
        · rw [if_neg hc] at H
          obtain hr := Option.some.inj H
          have HL := Aside0.mk hr
          clear H hr
          by_cases h1 : i < l1.length
          · have e1 : decide ((i : Int) < (l1.length : Int)) = true := decide_eq_true (by omega)
            have e2_ : decide ((i : Int) < 60) = false := decide_eq_false (by omega)
            go_wp2_with fail
            go_meet
            case rel => exact ⟨HL, HOW, HB⟩
          · have e1 : decide ((i : Int) < (l1.length : Int)) = false := decide_eq_false (by omega)
            go_wp2_with fail
            go_meet
            case rel => exact ⟨HL, HOW, HB⟩
  case rest =>
    clear H HI HR HOW HB
    obtain ⟨HL, HOW, HB⟩ := hcut
    go_wp2_with fail
    refine (cenotaphref06_Same.calls A5 c5 L A0 c0 L true wc HOW.out.2 HOW.out.1 (Kd.C_below HC0.out HB.out) hmc (by rw [cenotaphref06_Same.f, beq_self_eq_true])).mono ?_
    rintro e w2 ⟨rfl, hb⟩
    replace HB := Aside0.mk (below_step HB.out hb.below)
    clear hb
    obtain rfl := HL.out
    go_wp2_with fail
    go_ret
    exact ⟨rfl, HB.out⟩

end Go.Proofs.Ytgkcdmhndplejaa.P
