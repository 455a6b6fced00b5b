-- Written by a program of this session (wip/pp.py over the kit's printer, with our own texts put in).
import Derived.Test.YtkmhanpamdgnjaaP0
import Derived.Test.YtkmhanpamdgnjaaP2
import Derived.Test.YtkmhanpamdgnjaaP3
import Derived.Test.YtkmhanpamdgnjaaP4
import Derived.Test.YtkmhanpamdgnjaaP5
namespace Go.Proofs.Ytkmhanpamdgnjaa.P
open Go.RowKit Go.Proofs.YtkmhanpamdgnjaaW.PrintWords Go.Proofs.YtkmhanpamdgnjaaW.PrintLast Go.Proofs.YtkmhanpamdgnjaaW.PrintMore
attribute [local go_sem] max2_int min2_int max_two min_two max_three min_three max_four min_four   -- for this text's walks alone
set_option linter.unusedVariables false
set_option linter.unusedSimpArgs false

/-- A state of type 37 at block g of W; what its slices lead to came in by w0. -/
def IsS37 (w0 W : World) (g : Nat) (f0 : List Int) (f1 : Int) (f2 : Int) : Prop := ∃ A0 c0, W.heap[g]? = some (.cells #[.slice A0 f0.length (f0.length + c0), .int .i64 f1, .int .i64 f2] 37 (0, 0)) ∧ w0.heap.size ≤ g ∧ Kd.C (Kd.int .u8) w0 A0 f0.length f0
theorem IsS37.grown {w0 W : World} {g : Nat} {f0 : List Int} {f1 : Int} {f2 : Int} {W1 : World} {row : Option Nat} (h : IsS37 w0 W g f0 f1 f2) (hw : W.grownBy W1 row) (hne : some g ≠ row) : IsS37 w0 W1 g f0 f1 f2 := by
 obtain ⟨A0, c0, hb, hg, hr0⟩ := h
 exact ⟨A0, c0, blk_grown hb hw hne, hg, hr0⟩
theorem IsS37.own_neN {w0 W : World} {g : Nat} {f0 : List Int} {f1 : Int} {f2 : Int} {α : Type} {d : Kd α} {e : Nat} {base : Nat} {ok : Nat → Prop} {v : Value} {xs : List α} (h : IsS37 w0 W g f0 f1 f2) (ho : Kd.N d e W base ok v xs) (ht : e ≠ 37) : some g ≠ v.ownBlock := by
 obtain ⟨A0, c0, hb, hg, hr0⟩ := h
 exact Kd.N_ne ho hb ht
theorem IsS37.fresh {w0 W : World} {g : Nat} {f0 : List Int} {f1 : Int} {f2 : Int} (h : IsS37 w0 W g f0 f1 f2) : ∀ k, W.heap.size ≤ k → k ≠ g := by
 obtain ⟨A0, c0, hb, hg, hr0⟩ := h
 exact Kd.freshB hb
theorem IsS37.kept {w0 W : World} {g : Nat} {f0 : List Int} {f1 : Int} {f2 : Int} {W1 : World} {S : Nat → Prop} (h : IsS37 w0 W g f0 f1 f2) (hk : Kept W W1 S) (hne : ¬ S g) : IsS37 w0 W1 g f0 f1 f2 := by
 obtain ⟨A0, c0, hb, hg, hr0⟩ := h
 exact ⟨A0, c0, blk_kept hb hk hne, hg, hr0⟩
theorem IsS37.below {w0 W : World} {g : Nat} {f0 : List Int} {f1 : Int} {f2 : Int} {W1 : World} (h : IsS37 w0 W g f0 f1 f2) (hw : Below W.heap.size W W1) : IsS37 w0 W1 g f0 f1 f2 := h.grown (grown_of_below hw none) (by simp)
theorem IsS37.alloc {w0 W : World} {g : Nat} {f0 : List Int} {f1 : Int} {f2 : Int} (h : IsS37 w0 W g f0 f1 f2) (o : Obj) : IsS37 w0 (W.alloc o) g f0 f1 f2 := h.below (below_alloc (Below.refl _ _) o)
theorem IsS37.drewN {w0 W : World} {g : Nat} {f0 : List Int} {f1 : Int} {f2 : Int} (h : IsS37 w0 W g f0 f1 f2) (m : Nat) : IsS37 w0 (W.drewN m) g f0 f1 f2 := h
theorem IsS37.drew {w0 W : World} {g : Nat} {f0 : List Int} {f1 : Int} {f2 : Int} (h : IsS37 w0 W g f0 f1 f2) : IsS37 w0 W.drew g f0 f1 f2 := h
theorem IsS37.at_ {w0 W : World} {g : Nat} {f0 : List Int} {f1 : Int} {f2 : Int} {w' : World} {m : Nat} (hq : W.drewN m = w') (h : IsS37 w0 W g f0 f1 f2) : IsS37 w0 w' g f0 f1 f2 := by subst hq; exact IsS37.drewN h m
theorem IsS37.apart {w0 W : World} {g : Nat} {f0 : List Int} {f1 : Int} {f2 : Int} {α : Type} {d : Kd α} {e : Nat} {base : Nat} {ok : Nat → Prop} {v : Value} {xs : List α} (h : IsS37 w0 W g f0 f1 f2) (ho : d.R e W base ok v xs) (ht : ∀ q, q ∈ e :: d.E → q ≠ 37) : d.R e W base (fun k => ok k ∧ k ≠ g) v xs := by
 obtain ⟨A0, c0, hb, hg, hr0⟩ := h
 exact Kd.R_types ho hb ht
theorem IsS37.own_ne {w0 W : World} {g : Nat} {f0 : List Int} {f1 : Int} {f2 : Int} {α : Type} {d : Kd α} {e : Nat} {base : Nat} {ok : Nat → Prop} {v : Value} {xs : List α} (h : IsS37 w0 W g f0 f1 f2) (ho : d.R e W base ok v xs) (ht : e ≠ 37) : some g ≠ v.ownBlock := by
 obtain ⟨A0, c0, hb, hg, hr0⟩ := h
 exact Kd.R_ne ho hb ht
theorem IsS37.apartQ {w0 W : World} {g : Nat} {f0 : List Int} {f1 : Int} {f2 : Int} {α : Type} {d : Kd α} {e : Nat} {base : Nat} {ok : Nat → Prop} {v : Value} {xs : List α} (h : IsS37 w0 W g f0 f1 f2) (ho : d.Q e W base ok v xs) (ht : ∀ q, q ∈ e :: d.E → q ≠ 37) : d.Q e W base (fun k => ok k ∧ k ≠ g) v xs := by
 obtain ⟨A0, c0, hb, hg, hr0⟩ := h
 exact Kd.Q_types ho hb ht
theorem IsS37.own_neQ {w0 W : World} {g : Nat} {f0 : List Int} {f1 : Int} {f2 : Int} {α : Type} {d : Kd α} {e : Nat} {base : Nat} {ok : Nat → Prop} {v : Value} {xs : List α} (h : IsS37 w0 W g f0 f1 f2) (ho : d.Q e W base ok v xs) (ht : e ≠ 37) : some g ≠ v.ownBlock := by
 obtain ⟨A0, c0, hb, hg, hr0⟩ := h
 exact Kd.Q_ne ho hb ht
theorem IsS37.apartS {w0 W : World} {g : Nat} {f0 : List Int} {f1 : Int} {f2 : Int} {α : Type} {d : Kd α} {e : Nat} {base : Nat} {ok : Nat → Prop} {v : Value} {xs : List α} (h : IsS37 w0 W g f0 f1 f2) (ho : d.S e W base ok v xs) (ht : ∀ q, q ∈ e :: d.E → q ≠ 37) : d.S e W base (fun k => ok k ∧ k ≠ g) v xs := by
 obtain ⟨A0, c0, hb, hg, hr0⟩ := h
 exact Kd.S_types ho hb ht
theorem IsS37.own_neS {w0 W : World} {g : Nat} {f0 : List Int} {f1 : Int} {f2 : Int} {α : Type} {d : Kd α} {e : Nat} {base : Nat} {ok : Nat → Prop} {v : Value} {xs : List α} (h : IsS37 w0 W g f0 f1 f2) (ho : d.S e W base ok v xs) (ht : e ≠ 37) : some g ≠ v.ownBlock := by
 obtain ⟨A0, c0, hb, hg, hr0⟩ := h
 exact Kd.S_ne ho hb ht
theorem IsS37.lt {w0 W : World} {g : Nat} {f0 : List Int} {f1 : Int} {f2 : Int} (h : IsS37 w0 W g f0 f1 f2) : g < W.heap.size := by
 obtain ⟨A0, c0, hb, hg, hr0⟩ := h
 exact blk_lt hb
theorem IsS37.ge {w0 W : World} {g : Nat} {f0 : List Int} {f1 : Int} {f2 : Int} (h : IsS37 w0 W g f0 f1 f2) : w0.heap.size ≤ g := by
 obtain ⟨A0, c0, hb, hg, hr0⟩ := h
 exact hg
theorem IsS37.ne_blk {w0 W : World} {g : Nat} {f0 : List Int} {f1 : Int} {f2 : Int} {a : Nat} {cs : Array Value} {t : TypeId} {fr : Nat × Nat} (h : IsS37 w0 W g f0 f1 f2) (hb2 : W.heap[a]? = some (.cells cs t fr)) (ht : t ≠ 37) : g ≠ a := by
 obtain ⟨A0, c0, hb, hg, hr0⟩ := h
 rintro rfl
 rw [hb] at hb2
 injection hb2 with hb2
 injection hb2 with _ ht2
 exact ht ht2.symm
theorem IsS37.far {w0 W : World} {g : Nat} {f0 : List Int} {f1 : Int} {f2 : Int} {p : Addr} (h : IsS37 w0 W g f0 f1 f2) (hne : g ≠ p.block) (u : Value) : IsS37 w0 (W.setCell p u) g f0 f1 f2 := by
 obtain ⟨A0, c0, hb, hg, hr0⟩ := h
 exact ⟨A0, c0, blk_far hb hne u, hg, hr0⟩
theorem cellS37_0 {W : World} {g : Nat} {A0 : Option Addr} {c0 : Nat} {f0 : List Int} {f1 : Int} {f2 : Int} (h : W.heap[g]? = some (.cells #[.slice A0 f0.length (f0.length + c0), .int .i64 f1, .int .i64 f2] 37 (0, 0))) : W.cell? ⟨g, 0, none⟩ = some (.slice A0 f0.length (f0.length + c0)) := (blk_cell h 0).trans rfl
theorem cellS37_1 {W : World} {g : Nat} {A0 : Option Addr} {c0 : Nat} {f0 : List Int} {f1 : Int} {f2 : Int} (h : W.heap[g]? = some (.cells #[.slice A0 f0.length (f0.length + c0), .int .i64 f1, .int .i64 f2] 37 (0, 0))) : W.cell? ⟨g, 1, none⟩ = some (.int .i64 f1) := (blk_cell h 1).trans rfl
theorem IsS37.set_1 {w0 W : World} {g : Nat} {f0 : List Int} {f1 : Int} {f2 : Int} (h : IsS37 w0 W g f0 f1 f2) (x : Int) : IsS37 w0 (W.setCell ⟨g, 1, none⟩ (.int .i64 x)) g f0 x f2 := by
 obtain ⟨A0, c0, hb, hg, hr0⟩ := h
 exact ⟨A0, c0, by simpa using blk_set hb 1 (.int .i64 x), hg, hr0⟩
theorem cellS37_2 {W : World} {g : Nat} {A0 : Option Addr} {c0 : Nat} {f0 : List Int} {f1 : Int} {f2 : Int} (h : W.heap[g]? = some (.cells #[.slice A0 f0.length (f0.length + c0), .int .i64 f1, .int .i64 f2] 37 (0, 0))) : W.cell? ⟨g, 2, none⟩ = some (.int .i64 f2) := (blk_cell h 2).trans rfl
theorem IsS37.set_2 {w0 W : World} {g : Nat} {f0 : List Int} {f1 : Int} {f2 : Int} (h : IsS37 w0 W g f0 f1 f2) (x : Int) : IsS37 w0 (W.setCell ⟨g, 2, none⟩ (.int .i64 x)) g f0 f1 x := by
 obtain ⟨A0, c0, hb, hg, hr0⟩ := h
 exact ⟨A0, c0, by simpa using blk_set hb 2 (.int .i64 x), hg, hr0⟩
theorem IsS37.new (w0 W : World) (A0 : Option Addr) (c0 : Nat) (f0 : List Int) (f1 : Int) (f2 : Int) (hB : Below w0.heap.size w0 W) (hr0 : Kd.C (Kd.int .u8) w0 A0 f0.length f0) : IsS37 w0 (W.alloc (.cells #[.slice A0 f0.length (f0.length + c0), .int .i64 f1, .int .i64 f2] 37)) W.heap.size f0 f1 f2 := ⟨A0, c0, by simpa using heap_alloc_new W _, hB.size, hr0⟩

/-! ### cenotaphref06_Reader_Num: function 35 -/
theorem zq35_0 {p_ : Prop} (h_ : p_ := by first | (with_reducible assumption) | assumption) : p_ := h_
theorem zq35_1 {p_ : Prop} (h_ : p_ := by first | rfl | (simp; done) | (simp [*]; done)) : p_ := h_
def cenotaphref06_Reader_Num.l0 : Nat → Int → Int → Int → Int → List Int → Int → Int → Option (Int × Int × Int)
 | 0, _, _, _, _, _, _, _ => none
 | k + 1, x1, x5, x6, x7, x1000, x1001, x1002 => if x7 < 10 then (if x7 = 9 then (some (0, x1001, 3)) else (if (wrap64 (x1001 + x7)) ≥ (x1000.length : Int) then (some (0, x1001, 2)) else (if 0 ≤ (wrap64 (x1001 + x7)) then (if (wrap64 (x1001 + x7)) < (x1000.length : Int) then (if (wrap64 (rd x1000 (wrap64 (x1001 + x7)))) ≥ 128 then (cenotaphref06_Reader_Num.l0 k x1 (wrap64 (x5 + (wrap64 ((Int.tmod (wrap64 (rd x1000 (wrap64 (x1001 + x7)))) 128) * x6)))) (wrap64 (x6 * 128)) (wrap64 (x7 + 1)) x1000 x1001 x1002) else (if (wrap64 (rd x1000 (wrap64 (x1001 + x7)))) = 0 then (if x7 > 0 then (some (0, x1001, 3)) else (if (wrap64 (x5 + (wrap64 ((Int.tmod (wrap64 (rd x1000 (wrap64 (x1001 + x7)))) 128) * x6)))) > x1 then (some (0, x1001, 3)) else (some (wrap64 (x5 + (wrap64 ((Int.tmod (wrap64 (rd x1000 (wrap64 (x1001 + x7)))) 128) * x6))), wrap64 ((wrap64 (x1001 + x7)) + 1), x1002)))) else (if (wrap64 (x5 + (wrap64 ((Int.tmod (wrap64 (rd x1000 (wrap64 (x1001 + x7)))) 128) * x6)))) > x1 then (some (0, x1001, 3)) else (some (wrap64 (x5 + (wrap64 ((Int.tmod (wrap64 (rd x1000 (wrap64 (x1001 + x7)))) 128) * x6))), wrap64 ((wrap64 (x1001 + x7)) + 1), x1002))))) else (none)) else (none)))) else (some (0, x1001, x1002))
def cenotaphref06_Reader_Num.f (k : Nat) (s0_0 : List Int) (s0_1 : Int) (s0_2 : Int) (a1 : Int) : Option (Int × Int × Int) := if s0_2 = 0 then (cenotaphref06_Reader_Num.l0 k a1 0 1 0 s0_0 s0_1 s0_2) else (some (0, s0_1, s0_2))
theorem cenotaphref06_Reader_Num.mono_l : ∀ k, (∀ y0 y1 y2 y3 y4 y5 y6, LeO (cenotaphref06_Reader_Num.l0 k y0 y1 y2 y3 y4 y5 y6) (cenotaphref06_Reader_Num.l0 (k + 1) y0 y1 y2 y3 y4 y5 y6))
 | 0 => fun _ _ _ _ _ _ _ r h => by simp [cenotaphref06_Reader_Num.l0] at h
 | k + 1 => by
  have ih0 := cenotaphref06_Reader_Num.mono_l k
  ·intro y0 y1 y2 y3 y4 y5 y6
   unfold cenotaphref06_Reader_Num.l0
   repeat' first
   | (with_reducible exact ih0 _ _ _ _ _ _ _)
   | (with_reducible exact LeO.refl _)
   | (with_reducible exact LeO.none _)
   | (with_reducible refine LeO.ite ?_ ?_)
   | (with_reducible refine LeO.bind ?_ (fun _ => ?_))
   | exact ih0 _ _ _ _ _ _ _
   | exact LeO.none _
   | refine LeO.ite ?_ ?_
   | refine LeO.bind ?_ (fun _ => ?_)
theorem cenotaphref06_Reader_Num.mono : ∀ a0 a1 a2 a3 k, LeO (cenotaphref06_Reader_Num.f k a0 a1 a2 a3) (cenotaphref06_Reader_Num.f (k + 1) a0 a1 a2 a3) := by
 intro a0 a1 a2 a3 k
 have ih0 := cenotaphref06_Reader_Num.mono_l k
 unfold cenotaphref06_Reader_Num.f
 repeat' first
   | (with_reducible exact ih0 _ _ _ _ _ _ _)
   | (with_reducible exact LeO.refl _)
   | (with_reducible exact LeO.none _)
   | (with_reducible refine LeO.ite ?_ ?_)
   | (with_reducible refine LeO.bind ?_ (fun _ => ?_))
   | exact ih0 _ _ _ _ _ _ _
   | exact LeO.none _
   | refine LeO.ite ?_ ?_
   | refine LeO.bind ?_ (fun _ => ?_)
set_option maxHeartbeats 8000000 in
set_option maxRecDepth 100000 in
theorem cenotaphref06_Reader_Num.calls (k : Nat) (g : Nat) (s0_0 : List Int) (s0_1 : Int) (s0_2 : Int) (a1 : Int) (r1 : Int) (r2 : Int) (r3 : Int) (w0 w : World) (hI : IsS37 w0 w g s0_0 s0_1 s0_2) (hB : Below w0.heap.size w0 w) (h : cenotaphref06_Reader_Num.f k s0_0 s0_1 s0_2 a1 = some (r1, r2, r3)) :
  Calls Try.prog 35 #[.pointer (some ⟨g, 0, none⟩), .int .i64 a1] w fun e w' => e = .returned (.int .i64 r1) ∧ IsS37 w0 w' g s0_0 r2 r3 ∧ Below w0.heap.size w0 w' ∧ KeepBut w w' g none := by
 have HI0 := Aside0.mk hI
 have HK := Aside0.mk (KeepBut.refl w g none)
 have HL := Aside0.mk hB.size
 clear hI
 have HW0 := Aside0.mk hB.size
 have HB := Aside0.mk hB
 clear hB
 have H : (if s0_2 = 0 then (cenotaphref06_Reader_Num.l0 k a1 0 1 0 s0_0 s0_1 s0_2) else (some (0, s0_1, s0_2))) = some (r1, r2, r3) := h
 clear h
 by_cases c3 : s0_2 = 0
 ·rw [if_pos c3] at H
  have c3b0 : (s0_2 == 0) = true := beq_iff_eq.mpr c3
  have c3b1 : (s0_2 != 0) = false := bne_eq_false_iff_eq.mpr c3
  clear c3
  have H' := Aside0.mk H
  clear H
  obtain ⟨ASz4_0, cSz4_0, HGz4, hgz4, HSz4_0⟩ := HI0.out
  have hcz4_0 := cellS37_0 HGz4
  have hcz4_1 := cellS37_1 HGz4
  have hcz4_2 := cellS37_2 HGz4
  have hfz4_1 := blk_frozen HGz4 1
  have hfz4_2 := blk_frozen HGz4 2
  clear HGz4 hgz4
  go_enter Try.func35, Try.ntmps35
  go_wp2
  repeat (go_quiet (fail); try go_wp2)
  go_loopg [5, 6, 7] k (fun kq v5 v6 v7 w' => ∃ (x5_1 : Int) (x6_1 : Int) (x7_1 : Int) (x1001_1 : Int) (x1002_1 : Int), v5 = .int .i64 x5_1 ∧ v6 = .int .i64 x6_1 ∧ v7 = .int .i64 x7_1 ∧ Aside0 (cenotaphref06_Reader_Num.l0 kq a1 x5_1 x6_1 x7_1 s0_0 x1001_1 x1002_1 = some (r1, r2, r3)) ∧ Aside0 (kq ≤ k) ∧ Aside0 (IsS37 w0 w' g s0_0 x1001_1 x1002_1) ∧ Aside0 (KeepBut w w' g none) ∧ Aside0 (Below w0.heap.size w0 w'))
  case atStart => exact ⟨(0), (1), (0), (s0_1), (s0_2), zq35_1, zq35_1, zq35_1, H', ⟨Nat.le_refl _⟩, ⟨by repeat (first | (with_reducible first | exact HI0.out | apply IsS37.alloc | apply IsS37.drewN | apply IsS37.drew | apply IsS37.set_1 | apply IsS37.set_2) | exact HI0.out)⟩, ⟨by repeat (first | (with_reducible first | exact HK.out | apply KeepBut.set_ | apply keep_drewN | apply keep_drew | apply keep_alloc) | exact HK.out)⟩, ⟨by repeat (first | (with_reducible first | exact HB.out | apply below_alloc | apply pw_below_drewN | apply below_drew1 | refine below_set ?_ (IsS37.ge HI0.out)) | exact HB.out)⟩⟩
  case round =>
   clear H'
   try clear p2
   try clear c3
   try clear c3b0
   try clear c3b1
   try clear hcz4_0
   try clear hcz4_1
   try clear hcz4_2
   try clear hfz4_1
   try clear hfz4_2
   obtain ⟨x5_1, x6_1, x7_1, x1001_1, x1002_1, rfl, rfl, rfl, HA, HK1, HI0, HK, HB⟩ := hrel
   cases gk with
   | zero => exact absurd HA.out (by simp [cenotaphref06_Reader_Num.l0])
   | succ k1 =>
    have H := HA.out
    clear HA
    simp only [cenotaphref06_Reader_Num.l0] at H
    by_cases c5 : x7_1 < 10
    ·rw [if_pos c5] at H
     have c5b0 : decide (x7_1 < 10) = true := decide_eq_true c5
     clear c5
     by_cases c6 : x7_1 = 9
     ·rw [if_pos c6] at H
      have c6b0 : (x7_1 == 9) = true := beq_iff_eq.mpr c6
      have c6b1 : (x7_1 != 9) = false := bne_eq_false_iff_eq.mpr c6
      clear c6
      simp only [Option.some.injEq, Prod.mk.injEq] at H
      obtain ⟨rfl, rfl, rfl⟩ := H
      obtain ⟨ASz7_0, cSz7_0, HGz7, hgz7, HSz7_0⟩ := HI0.out
      have hcz7_0 := cellS37_0 HGz7
      have hcz7_1 := cellS37_1 HGz7
      have hcz7_2 := cellS37_2 HGz7
      have hfz7_1 := blk_frozen HGz7 1
      have hfz7_2 := blk_frozen HGz7 2
      clear HGz7 hgz7
      go_wp2
      repeat (go_quiet (fail); try go_wp2)
      go_ret
      exact ⟨by first | rfl | (simp [errW_none, errW_some] <;> rfl) | (simp [*, errW_none, errW_some] <;> rfl), by repeat (first | (with_reducible first | exact HI0.out | apply IsS37.alloc | apply IsS37.drewN | apply IsS37.drew | apply IsS37.set_1 | apply IsS37.set_2) | exact HI0.out), by repeat (first | (with_reducible first | exact HB.out | apply below_alloc | apply pw_below_drewN | apply below_drew1 | refine below_set ?_ (IsS37.ge HI0.out)) | exact HB.out), by repeat (first | (with_reducible first | exact HK.out | apply KeepBut.set_ | apply keep_drewN | apply keep_drew | apply keep_alloc) | exact HK.out)⟩
     ·rw [if_neg c6] at H
      have c6b0 : (x7_1 == 9) = false := beq_eq_false_iff_ne.mpr c6
      have c6b1 : (x7_1 != 9) = true := bne_iff_ne.mpr c6
      by_cases c8 : (wrap64 (x1001_1 + x7_1)) ≥ (s0_0.length : Int)
      ·rw [if_pos c8] at H
       have c8b0 : decide ((s0_0.length : Int) ≤ (wrap64 (x1001_1 + x7_1))) = true := decide_eq_true c8
       clear c8
       simp only [Option.some.injEq, Prod.mk.injEq] at H
       obtain ⟨rfl, rfl, rfl⟩ := H
       obtain ⟨ASz9_0, cSz9_0, HGz9, hgz9, HSz9_0⟩ := HI0.out
       have hcz9_0 := cellS37_0 HGz9
       have hcz9_1 := cellS37_1 HGz9
       have hcz9_2 := cellS37_2 HGz9
       have hfz9_1 := blk_frozen HGz9 1
       have hfz9_2 := blk_frozen HGz9 2
       clear HGz9 hgz9
       go_wp2
       repeat (go_quiet (fail); try go_wp2)
       go_ret
       exact ⟨by first | rfl | (simp [errW_none, errW_some] <;> rfl) | (simp [*, errW_none, errW_some] <;> rfl), by repeat (first | (with_reducible first | exact HI0.out | apply IsS37.alloc | apply IsS37.drewN | apply IsS37.drew | apply IsS37.set_1 | apply IsS37.set_2) | exact HI0.out), by repeat (first | (with_reducible first | exact HB.out | apply below_alloc | apply pw_below_drewN | apply below_drew1 | refine below_set ?_ (IsS37.ge HI0.out)) | exact HB.out), by repeat (first | (with_reducible first | exact HK.out | apply KeepBut.set_ | apply keep_drewN | apply keep_drew | apply keep_alloc) | exact HK.out)⟩
      ·rw [if_neg c8] at H
       have c8b0 : decide ((s0_0.length : Int) ≤ (wrap64 (x1001_1 + x7_1))) = false := decide_eq_false c8
       clear c8
       obtain ⟨ji10, hji10⟩ : ∃ j_ : Int, (wrap64 (x1001_1 + x7_1)) = j_ := ⟨_, rfl⟩
       replace H : (if 0 ≤ (ji10) then (if (ji10) < (s0_0.length : Int) then (if (wrap64 (rd s0_0 (ji10))) ≥ 128 then (cenotaphref06_Reader_Num.l0 k1 a1 (wrap64 (x5_1 + (wrap64 ((Int.tmod (wrap64 (rd s0_0 (ji10))) 128) * x6_1)))) (wrap64 (x6_1 * 128)) (wrap64 (x7_1 + 1)) s0_0 x1001_1 x1002_1) else (if (wrap64 (rd s0_0 (ji10))) = 0 then (if x7_1 > 0 then (some (0, x1001_1, 3)) else (if (wrap64 (x5_1 + (wrap64 ((Int.tmod (wrap64 (rd s0_0 (ji10))) 128) * x6_1)))) > a1 then (some (0, x1001_1, 3)) else (some (wrap64 (x5_1 + (wrap64 ((Int.tmod (wrap64 (rd s0_0 (ji10))) 128) * x6_1))), wrap64 ((ji10) + 1), x1002_1)))) else (if (wrap64 (x5_1 + (wrap64 ((Int.tmod (wrap64 (rd s0_0 (ji10))) 128) * x6_1)))) > a1 then (some (0, x1001_1, 3)) else (some (wrap64 (x5_1 + (wrap64 ((Int.tmod (wrap64 (rd s0_0 (ji10))) 128) * x6_1))), wrap64 ((ji10) + 1), x1002_1))))) else (none)) else (none)) = some (r1, r2, r3) := by first | (rw [hji10] at H; exact H) | (simp only [hji10] at H ⊢; exact H)
       (try rw [hji10] at c8b0)
       have hji10w : (IntKind.i64.wrap (x1001_1 + x7_1)) = ji10 := (i64_w _).trans hji10
       by_cases c11 : 0 ≤ (ji10)
       ·rw [if_pos c11] at H
        have c11b0 : decide (0 ≤ (ji10)) = true := decide_eq_true c11
        clear c11
        by_cases c12 : (ji10) < (s0_0.length : Int)
        ·rw [if_pos c12] at H
         have c12b0 : decide ((ji10) < (s0_0.length : Int)) = true := decide_eq_true c12
         clear c12
         by_cases c13 : (wrap64 (rd s0_0 (ji10))) ≥ 128
         ·rw [if_pos c13] at H
          have c13b0 : decide (128 ≤ (wrap64 (rd s0_0 (ji10)))) = true := decide_eq_true c13
          clear c13
          have H' := Aside0.mk H
          clear H
          obtain ⟨ASz14_0, cSz14_0, HGz14, hgz14, HSz14_0⟩ := HI0.out
          have hcz14_0 := cellS37_0 HGz14
          have hcz14_1 := cellS37_1 HGz14
          have hcz14_2 := cellS37_2 HGz14
          have hfz14_1 := blk_frozen HGz14 1
          have hfz14_2 := blk_frozen HGz14 2
          clear HGz14 hgz14
          have p181 : 0 ≤ ((ji10) : Int) := of_decide_eq_true zq35_0
          have q181 : (ji10) < (s0_0.length : Int) := of_decide_eq_true zq35_0
          obtain ⟨ad181, e181, hx181_0⟩ := Kd.at_int HSz14_0 (ji10) p181 q181
          cases e181
          replace hx181_0 := pw_cell_below HB.out hx181_0
          replace p181 := eq_true p181
          replace q181 := eq_true q181
          go_wp2
          repeat (go_quiet (fail); try go_wp2)
          go_roundg k1
          case measure => have := HK1.out; omega
          case rel => exact ⟨(wrap64 (x5_1 + (wrap64 ((Int.tmod (wrap64 (rd s0_0 (ji10))) 128) * x6_1)))), (wrap64 (x6_1 * 128)), (wrap64 (x7_1 + 1)), (x1001_1), (x1002_1), (by first | rfl | (simp; done) | (simp only [← hji10] <;> (first | rfl | simp)) | (simp [*]; done)), zq35_1, zq35_1, H', ⟨by have := HK1.out; omega⟩, ⟨by repeat (first | (with_reducible first | exact HI0.out | apply IsS37.alloc | apply IsS37.drewN | apply IsS37.drew | apply IsS37.set_1 | apply IsS37.set_2) | exact HI0.out)⟩, ⟨by repeat (first | (with_reducible first | exact HK.out | apply KeepBut.set_ | apply keep_drewN | apply keep_drew | apply keep_alloc) | exact HK.out)⟩, ⟨by repeat (first | (with_reducible first | exact HB.out | apply below_alloc | apply pw_below_drewN | apply below_drew1 | refine below_set ?_ (IsS37.ge HI0.out)) | exact HB.out)⟩⟩
         ·rw [if_neg c13] at H
          have c13b0 : decide (128 ≤ (wrap64 (rd s0_0 (ji10)))) = false := decide_eq_false c13
          clear c13
          by_cases c15 : (wrap64 (rd s0_0 (ji10))) = 0
          ·rw [if_pos c15] at H
           have c15b0 : ((wrap64 (rd s0_0 (ji10))) == 0) = true := beq_iff_eq.mpr c15
           have c15b1 : ((wrap64 (rd s0_0 (ji10))) != 0) = false := bne_eq_false_iff_eq.mpr c15
           clear c15
           by_cases c16 : x7_1 > 0
           ·rw [if_pos c16] at H
            have c16b0 : decide (0 < x7_1) = true := decide_eq_true c16
            clear c16
            simp only [Option.some.injEq, Prod.mk.injEq] at H
            obtain ⟨rfl, rfl, rfl⟩ := H
            obtain ⟨ASz17_0, cSz17_0, HGz17, hgz17, HSz17_0⟩ := HI0.out
            have hcz17_0 := cellS37_0 HGz17
            have hcz17_1 := cellS37_1 HGz17
            have hcz17_2 := cellS37_2 HGz17
            have hfz17_1 := blk_frozen HGz17 1
            have hfz17_2 := blk_frozen HGz17 2
            clear HGz17 hgz17
            have p181 : 0 ≤ ((ji10) : Int) := of_decide_eq_true zq35_0
            have q181 : (ji10) < (s0_0.length : Int) := of_decide_eq_true zq35_0
            obtain ⟨ad181, e181, hx181_0⟩ := Kd.at_int HSz17_0 (ji10) p181 q181
            cases e181
            replace hx181_0 := pw_cell_below HB.out hx181_0
            replace p181 := eq_true p181
            replace q181 := eq_true q181
            go_wp2
            repeat (go_quiet (fail); try go_wp2)
            go_ret
            exact ⟨by first | rfl | (simp [errW_none, errW_some] <;> rfl) | (simp only [← hji10]; first | rfl | (simp [errW_none, errW_some] <;> rfl)) | (simp [*, errW_none, errW_some] <;> rfl), by repeat (first | (with_reducible first | exact HI0.out | apply IsS37.alloc | apply IsS37.drewN | apply IsS37.drew | apply IsS37.set_1 | apply IsS37.set_2) | exact HI0.out), by repeat (first | (with_reducible first | exact HB.out | apply below_alloc | apply pw_below_drewN | apply below_drew1 | refine below_set ?_ (IsS37.ge HI0.out)) | exact HB.out), by repeat (first | (with_reducible first | exact HK.out | apply KeepBut.set_ | apply keep_drewN | apply keep_drew | apply keep_alloc) | exact HK.out)⟩
           ·rw [if_neg c16] at H
            have c16b0 : decide (0 < x7_1) = false := decide_eq_false c16
            clear c16
            by_cases c18 : (wrap64 (x5_1 + (wrap64 ((Int.tmod (wrap64 (rd s0_0 (ji10))) 128) * x6_1)))) > a1
            ·rw [if_pos c18] at H
             have c18b0 : decide (a1 < (wrap64 (x5_1 + (wrap64 ((Int.tmod (wrap64 (rd s0_0 (ji10))) 128) * x6_1))))) = true := decide_eq_true c18
             clear c18
             simp only [Option.some.injEq, Prod.mk.injEq] at H
             obtain ⟨rfl, rfl, rfl⟩ := H
             obtain ⟨ASz19_0, cSz19_0, HGz19, hgz19, HSz19_0⟩ := HI0.out
             have hcz19_0 := cellS37_0 HGz19
             have hcz19_1 := cellS37_1 HGz19
             have hcz19_2 := cellS37_2 HGz19
             have hfz19_1 := blk_frozen HGz19 1
             have hfz19_2 := blk_frozen HGz19 2
             clear HGz19 hgz19
             have p181 : 0 ≤ ((ji10) : Int) := of_decide_eq_true zq35_0
             have q181 : (ji10) < (s0_0.length : Int) := of_decide_eq_true zq35_0
             obtain ⟨ad181, e181, hx181_0⟩ := Kd.at_int HSz19_0 (ji10) p181 q181
             cases e181
             replace hx181_0 := pw_cell_below HB.out hx181_0
             replace p181 := eq_true p181
             replace q181 := eq_true q181
             go_wp2
             repeat (go_quiet (fail); try go_wp2)
             go_ret
             exact ⟨by first | rfl | (simp [errW_none, errW_some] <;> rfl) | (simp only [← hji10]; first | rfl | (simp [errW_none, errW_some] <;> rfl)) | (simp [*, errW_none, errW_some] <;> rfl), by repeat (first | (with_reducible first | exact HI0.out | apply IsS37.alloc | apply IsS37.drewN | apply IsS37.drew | apply IsS37.set_1 | apply IsS37.set_2) | exact HI0.out), by repeat (first | (with_reducible first | exact HB.out | apply below_alloc | apply pw_below_drewN | apply below_drew1 | refine below_set ?_ (IsS37.ge HI0.out)) | exact HB.out), by repeat (first | (with_reducible first | exact HK.out | apply KeepBut.set_ | apply keep_drewN | apply keep_drew | apply keep_alloc) | exact HK.out)⟩
            ·rw [if_neg c18] at H
             have c18b0 : decide (a1 < (wrap64 (x5_1 + (wrap64 ((Int.tmod (wrap64 (rd s0_0 (ji10))) 128) * x6_1))))) = false := decide_eq_false c18
             clear c18
             simp only [Option.some.injEq, Prod.mk.injEq] at H
             obtain ⟨rfl, rfl, rfl⟩ := H
             obtain ⟨ASz20_0, cSz20_0, HGz20, hgz20, HSz20_0⟩ := HI0.out
             have hcz20_0 := cellS37_0 HGz20
             have hcz20_1 := cellS37_1 HGz20
             have hcz20_2 := cellS37_2 HGz20
             have hfz20_1 := blk_frozen HGz20 1
             have hfz20_2 := blk_frozen HGz20 2
             clear HGz20 hgz20
             have p181 : 0 ≤ ((ji10) : Int) := of_decide_eq_true zq35_0
             have q181 : (ji10) < (s0_0.length : Int) := of_decide_eq_true zq35_0
             obtain ⟨ad181, e181, hx181_0⟩ := Kd.at_int HSz20_0 (ji10) p181 q181
             cases e181
             replace hx181_0 := pw_cell_below HB.out hx181_0
             replace p181 := eq_true p181
             replace q181 := eq_true q181
             go_wp2
             repeat (go_quiet (fail); try go_wp2)
             go_ret
             exact ⟨by first | rfl | (simp [errW_none, errW_some] <;> rfl) | (simp only [← hji10]; first | rfl | (simp [errW_none, errW_some] <;> rfl)) | (simp [*, errW_none, errW_some] <;> rfl), by repeat (first | (with_reducible first | exact HI0.out | apply IsS37.alloc | apply IsS37.drewN | apply IsS37.drew | apply IsS37.set_1 | apply IsS37.set_2) | exact HI0.out), by repeat (first | (with_reducible first | exact HB.out | apply below_alloc | apply pw_below_drewN | apply below_drew1 | refine below_set ?_ (IsS37.ge HI0.out)) | exact HB.out), by repeat (first | (with_reducible first | exact HK.out | apply KeepBut.set_ | apply keep_drewN | apply keep_drew | apply keep_alloc) | exact HK.out)⟩
          ·rw [if_neg c15] at H
           have c15b0 : ((wrap64 (rd s0_0 (ji10))) == 0) = false := beq_eq_false_iff_ne.mpr c15
           have c15b1 : ((wrap64 (rd s0_0 (ji10))) != 0) = true := bne_iff_ne.mpr c15
           by_cases c21 : (wrap64 (x5_1 + (wrap64 ((Int.tmod (wrap64 (rd s0_0 (ji10))) 128) * x6_1)))) > a1
           ·rw [if_pos c21] at H
            have c21b0 : decide (a1 < (wrap64 (x5_1 + (wrap64 ((Int.tmod (wrap64 (rd s0_0 (ji10))) 128) * x6_1))))) = true := decide_eq_true c21
            clear c21
            simp only [Option.some.injEq, Prod.mk.injEq] at H
            obtain ⟨rfl, rfl, rfl⟩ := H
            obtain ⟨ASz22_0, cSz22_0, HGz22, hgz22, HSz22_0⟩ := HI0.out
            have hcz22_0 := cellS37_0 HGz22
            have hcz22_1 := cellS37_1 HGz22
            have hcz22_2 := cellS37_2 HGz22
            have hfz22_1 := blk_frozen HGz22 1
            have hfz22_2 := blk_frozen HGz22 2
            clear HGz22 hgz22
            have p181 : 0 ≤ ((ji10) : Int) := of_decide_eq_true zq35_0
            have q181 : (ji10) < (s0_0.length : Int) := of_decide_eq_true zq35_0
            obtain ⟨ad181, e181, hx181_0⟩ := Kd.at_int HSz22_0 (ji10) p181 q181
            cases e181
            replace hx181_0 := pw_cell_below HB.out hx181_0
            replace p181 := eq_true p181
            replace q181 := eq_true q181
            go_wp2
            repeat (go_quiet (fail); try go_wp2)
            go_ret
            exact ⟨by first | rfl | (simp [errW_none, errW_some] <;> rfl) | (simp only [← hji10]; first | rfl | (simp [errW_none, errW_some] <;> rfl)) | (simp [*, errW_none, errW_some] <;> rfl), by repeat (first | (with_reducible first | exact HI0.out | apply IsS37.alloc | apply IsS37.drewN | apply IsS37.drew | apply IsS37.set_1 | apply IsS37.set_2) | exact HI0.out), by repeat (first | (with_reducible first | exact HB.out | apply below_alloc | apply pw_below_drewN | apply below_drew1 | refine below_set ?_ (IsS37.ge HI0.out)) | exact HB.out), by repeat (first | (with_reducible first | exact HK.out | apply KeepBut.set_ | apply keep_drewN | apply keep_drew | apply keep_alloc) | exact HK.out)⟩
           ·rw [if_neg c21] at H
            have c21b0 : decide (a1 < (wrap64 (x5_1 + (wrap64 ((Int.tmod (wrap64 (rd s0_0 (ji10))) 128) * x6_1))))) = false := decide_eq_false c21
            clear c21
            simp only [Option.some.injEq, Prod.mk.injEq] at H
            obtain ⟨rfl, rfl, rfl⟩ := H
            obtain ⟨ASz23_0, cSz23_0, HGz23, hgz23, HSz23_0⟩ := HI0.out
            have hcz23_0 := cellS37_0 HGz23
            have hcz23_1 := cellS37_1 HGz23
            have hcz23_2 := cellS37_2 HGz23
            have hfz23_1 := blk_frozen HGz23 1
            have hfz23_2 := blk_frozen HGz23 2
            clear HGz23 hgz23
            have p181 : 0 ≤ ((ji10) : Int) := of_decide_eq_true zq35_0
            have q181 : (ji10) < (s0_0.length : Int) := of_decide_eq_true zq35_0
            obtain ⟨ad181, e181, hx181_0⟩ := Kd.at_int HSz23_0 (ji10) p181 q181
            cases e181
            replace hx181_0 := pw_cell_below HB.out hx181_0
            replace p181 := eq_true p181
            replace q181 := eq_true q181
            go_wp2
            repeat (go_quiet (fail); try go_wp2)
            go_ret
            exact ⟨by first | rfl | (simp [errW_none, errW_some] <;> rfl) | (simp only [← hji10]; first | rfl | (simp [errW_none, errW_some] <;> rfl)) | (simp [*, errW_none, errW_some] <;> rfl), by repeat (first | (with_reducible first | exact HI0.out | apply IsS37.alloc | apply IsS37.drewN | apply IsS37.drew | apply IsS37.set_1 | apply IsS37.set_2) | exact HI0.out), by repeat (first | (with_reducible first | exact HB.out | apply below_alloc | apply pw_below_drewN | apply below_drew1 | refine below_set ?_ (IsS37.ge HI0.out)) | exact HB.out), by repeat (first | (with_reducible first | exact HK.out | apply KeepBut.set_ | apply keep_drewN | apply keep_drew | apply keep_alloc) | exact HK.out)⟩
        ·rw [if_neg c12] at H
         exact absurd H (by simp)
       ·rw [if_neg c11] at H
        exact absurd H (by simp)
    ·rw [if_neg c5] at H
     have c5b0 : decide (x7_1 < 10) = false := decide_eq_false c5
     clear c5
     simp only [Option.some.injEq, Prod.mk.injEq] at H
     obtain ⟨rfl, rfl, rfl⟩ := H
     go_wp2
     repeat (go_quiet (fail); try go_wp2)
     go_ret
     exact ⟨by first | rfl | (simp [errW_none, errW_some] <;> rfl) | (simp [*, errW_none, errW_some] <;> rfl), by repeat (first | (with_reducible first | exact HI0.out | apply IsS37.alloc | apply IsS37.drewN | apply IsS37.drew | apply IsS37.set_1 | apply IsS37.set_2) | exact HI0.out), by repeat (first | (with_reducible first | exact HB.out | apply below_alloc | apply pw_below_drewN | apply below_drew1 | refine below_set ?_ (IsS37.ge HI0.out)) | exact HB.out), by repeat (first | (with_reducible first | exact HK.out | apply KeepBut.set_ | apply keep_drewN | apply keep_drew | apply keep_alloc) | exact HK.out)⟩
 ·rw [if_neg c3] at H
  have c3b0 : (s0_2 == 0) = false := beq_eq_false_iff_ne.mpr c3
  have c3b1 : (s0_2 != 0) = true := bne_iff_ne.mpr c3
  simp only [Option.some.injEq, Prod.mk.injEq] at H
  obtain ⟨rfl, rfl, rfl⟩ := H
  obtain ⟨ASz24_0, cSz24_0, HGz24, hgz24, HSz24_0⟩ := HI0.out
  have hcz24_0 := cellS37_0 HGz24
  have hcz24_1 := cellS37_1 HGz24
  have hcz24_2 := cellS37_2 HGz24
  have hfz24_1 := blk_frozen HGz24 1
  have hfz24_2 := blk_frozen HGz24 2
  clear HGz24 hgz24
  go_enter Try.func35, Try.ntmps35
  go_wp2
  repeat (go_quiet (fail); try go_wp2)
  go_ret
  exact ⟨by first | rfl | (simp [errW_none, errW_some] <;> rfl) | (simp [*, errW_none, errW_some] <;> rfl), by repeat (first | (with_reducible first | exact HI0.out | apply IsS37.alloc | apply IsS37.drewN | apply IsS37.drew | apply IsS37.set_1 | apply IsS37.set_2) | exact HI0.out), by repeat (first | (with_reducible first | exact HB.out | apply below_alloc | apply pw_below_drewN | apply below_drew1 | refine below_set ?_ (IsS37.ge HI0.out)) | exact HB.out), by repeat (first | (with_reducible first | exact HK.out | apply KeepBut.set_ | apply keep_drewN | apply keep_drew | apply keep_alloc) | exact HK.out)⟩

/-! ### cenotaphref06_Reader_Text: function 36 -/
def cenotaphref06_Reader_Text.f (k : Nat) (s0_0 : List Int) (s0_1 : Int) (s0_2 : Int) (a1 : Int) : Option (ByteArray × Int × Int) := (cenotaphref06_Reader_Num.f k s0_0 s0_1 s0_2 a1).bind fun p => if ¬ p.2.2 = 0 then some (⟨#[]⟩, p.2.1, p.2.2) else if 0 ≤ p.1 ∧ 0 ≤ p.2.1 ∧ p.2.1 ≤ (s0_0.length : Int) then (if p.1 > (s0_0.length : Int) - p.2.1 then some (⟨#[]⟩, p.2.1, 2) else some (strOfNums ((s0_0.take (p.2.1 + p.1).toNat).drop p.2.1.toNat), p.2.1 + p.1, 0)) else none
theorem cenotaphref06_Reader_Text.mono (s0_0 : List Int) (s0_1 : Int) (s0_2 : Int) (a1 : Int) : ∀ k, LeO (cenotaphref06_Reader_Text.f k s0_0 s0_1 s0_2 a1) (cenotaphref06_Reader_Text.f (k + 1) s0_0 s0_1 s0_2 a1) := by
  intro k r h
  obtain ⟨p, hp, h2⟩ := Option.bind_eq_some_iff.mp h
  exact Option.bind_eq_some_iff.mpr ⟨p, cenotaphref06_Reader_Num.mono s0_0 s0_1 s0_2 a1 k p hp, h2⟩
set_option maxHeartbeats 8000000 in
set_option maxRecDepth 100000 in
theorem cenotaphref06_Reader_Text.calls (k : Nat) (g : Nat) (s0_0 : List Int) (s0_1 : Int) (s0_2 : Int) (a1 : Int) (r1 : ByteArray) (r2 : Int) (r3 : Int) (w0 w : World) (hI : IsS37 w0 w g s0_0 s0_1 s0_2) (hB : Below w0.heap.size w0 w) (h : cenotaphref06_Reader_Text.f k s0_0 s0_1 s0_2 a1 = some (r1, r2, r3)) :
    Calls Try.prog 36 #[.pointer (some ⟨g, 0, none⟩), .int .i64 a1] w fun e w' => e = .returned (.string r1) ∧ IsS37 w0 w' g s0_0 r2 r3 ∧ Below w0.heap.size w0 w' ∧ KeepBut w w' g none := by
  obtain ⟨⟨n, t1, t2⟩, hnum, h2⟩ := Option.bind_eq_some_iff.mp h
  dsimp only at h2
  clear h
  have H2 := Aside0.mk h2
  clear h2
  have HN := Aside0.mk (cenotaphref06_Reader_Num.calls k g s0_0 s0_1 s0_2 a1 n t1 t2 w0 w hI hB hnum)
  have HK := Aside0.mk (KeepBut.refl w g none)
  clear hI hB hnum
  go_enter Try.func36, Try.ntmps36
  go_wp2_with fail
  refine HN.out.mono ?_
  rintro e w1 ⟨rfl, hi, hb, hk⟩
  have HI0 := Aside0.mk hi
  have HB := Aside0.mk hb
  replace HK := Aside0.mk (HK.out.trans hk (.inl rfl))
  clear hi hb hk HN
  obtain ⟨ASz2_0, cSz2_0, HGz2, hgz2, HSz2_0⟩ := HI0.out
  have hcz2_0 := cellS37_0 HGz2
  have hcz2_1 := cellS37_1 HGz2
  have hcz2_2 := cellS37_2 HGz2
  have hfz2_1 := blk_frozen HGz2 1
  have hfz2_2 := blk_frozen HGz2 2
  clear hgz2
  have h2 := H2.out
  clear H2
  have hlen := HSz2_0.2.1
  by_cases hz : t2 = 0
  · subst hz
    rw [if_neg (by simp)] at h2
    by_cases hc : 0 ≤ n ∧ 0 ≤ t1 ∧ t1 ≤ (s0_0.length : Int)
    · rw [if_pos hc] at h2
      obtain ⟨hn0, ht0, ht1⟩ := hc
      have hw1 : IntKind.i64.wrap ((s0_0.length : Int) - t1) = (s0_0.length : Int) - t1 := by rw [IntKind.wrap_i64] <;> omega
      by_cases hgt : n > (s0_0.length : Int) - t1
      · rw [if_pos hgt] at h2
        have hgb : decide ((s0_0.length : Int) - t1 < n) = true := decide_eq_true hgt
        have hgb2 := eq_true hgt
        simp only [Option.some.injEq, Prod.mk.injEq] at h2
        obtain ⟨rfl, rfl, rfl⟩ := h2
        clear HGz2
        go_wp2
        repeat (go_quiet (fail); try go_wp2)
        all_goals try (exfalso; omega)
        go_ret
        exact ⟨rfl, by repeat (first | (with_reducible first | exact HI0.out | apply IsS37.drewN | apply IsS37.drew | apply IsS37.set_1 | apply IsS37.set_2) | exact HI0.out), by repeat (first | (with_reducible first | exact HB.out | apply below_alloc | apply pw_below_drewN | apply below_drew1 | refine below_set ?_ (IsS37.ge HI0.out)) | exact HB.out), by repeat (first | (with_reducible first | exact HK.out | apply KeepBut.set_ | apply keep_drewN | apply keep_drew | apply keep_alloc) | exact HK.out)⟩
      · rw [if_neg hgt] at h2
        have hgb : decide ((s0_0.length : Int) - t1 < n) = false := decide_eq_false hgt
        have hgb2 := eq_false hgt
        simp only [Option.some.injEq, Prod.mk.injEq] at h2
        obtain ⟨rfl, rfl, rfl⟩ := h2
        have hw2 : IntKind.i64.wrap (t1 + n) = t1 + n := by rw [IntKind.wrap_i64] <;> omega
        have hw3 : IntKind.i64.wrap (t1 + n - n) = t1 := by rw [IntKind.wrap_i64] <;> omega
        clear HGz2
        go_wp2
        repeat (go_quiet (fail); try go_wp2)
        all_goals try (exfalso; omega)
        refine with_ (fun W => IsS37 w0 W g s0_0 t1 0 ∧ Below w0.heap.size w0 W ∧ KeepBut w W g none) ⟨?_, ?_, ?_⟩ ?_
        · repeat (first | (with_reducible first | exact HI0.out | apply IsS37.drewN | apply IsS37.drew | apply IsS37.set_1 | apply IsS37.set_2) | exact HI0.out)
        · repeat (first | (with_reducible first | exact HB.out | apply below_alloc | apply pw_below_drewN | apply below_drew1 | refine below_set ?_ (IsS37.ge HI0.out)) | exact HB.out)
        · repeat (first | (with_reducible first | exact HK.out | apply KeepBut.set_ | apply keep_drewN | apply keep_drew | apply keep_alloc) | exact HK.out)
        rintro ⟨hi, hb, hk⟩
        replace HI0 := Aside0.mk hi
        replace HB := Aside0.mk hb
        replace HK := Aside0.mk hk
        clear hi hb hk hcz2_0 hcz2_1 hcz2_2 hfz2_1 hfz2_2
        generalize World.drewN _ _ = W at HI0 HB HK ⊢
        obtain ⟨A3, c3, HG3, hg3, HS3⟩ := HI0.out
        have hc3 := HS3.2.1
        obtain ⟨i1, hi1, hz1, hsz1, hby1⟩ := info_parts info5
        have hC4 := fun (W' : World) (hb' : Below w0.heap.size w0 W') => cut_lh A3 s0_0.length (s0_0.length + c3) t1 (t1 + n) ht0 (by omega) (by omega) (by omega) (Kd.C_below HS3 hb')
        have hw4 : wrap64 (t1 + n) = t1 + n := Go.Proofs.Ytkmhanpamdgnjaa.Pure.wrap_id (by omega) (by omega)
        have q1 := eq_true (show 0 ≤ t1 + n by omega)
        have q2 := eq_true (show t1 + n ≤ (s0_0.length : Int) + (c3 : Int) by omega)
        have q3 := eq_true ht0
        have q4 := eq_true (show t1 ≤ max (t1 + n) 0 by omega)
        have hcv := fun (W' : World) (hb' : Below w0.heap.size w0 W') => Kd.C_string (P := Try.prog) (c := s0_0.length + c3 - t1.toNat) Try.underlying32 Try.underlying5 Try.underlying9 (hC4 W' hb')
        obtain ⟨r, hr⟩ : ∃ r, strOfNums ((s0_0.take (t1 + n).toNat).drop t1.toNat) = r := ⟨_, rfl⟩
        rw [hr] at hcv
        have HRR := Aside0.mk hr
        clear hr
        refine start_ (n := 17) (S := fun w' => w'.cell? ⟨g, 0, none⟩ = some (.slice A3 s0_0.length (s0_0.length + c3)) ∧ w'.cell? ⟨g, 1, none⟩ = some (.int .i64 t1) ∧ (convert 32 9 (.slice (if s0_0.length + c3 = t1.toNat then A3 else A3.map fun x => x.add t1.toNat) ((t1 + n).toNat - t1.toNat) (s0_0.length + c3 - t1.toNat))).run Try.prog w' = .ok (.string r) w') (ds := []) #[false, false, false, false, false, false, false, false, false, false, false, false, false, false, false, false, false] (by kernel_rfl) rfl rfl ⟨cellS37_0 HG3, cellS37_1 HG3, hcv _ (below_drew1 HB.out)⟩ (fun hHeld => ?_)
        clear hcv hC4
        refine pure_ (i := 0) (N := some 30) (v := ?_) (a' := ?_) #[true, false, false, false, false, false, false, false, false, false, false, false, false, false, false, false, false] rfl rfl (by kernel_rfl) (fun _ _ _ h => h) (Or.inl ⟨by rfl, ?_⟩) ?_ ?_
        rotate_left
        · intro w'
          go_simp
          with_reducible rfl
        rotate_left
        · simp only [Act.put, List.setIfInBounds_toArray, List.set_cons_zero, List.set_cons_succ, i64_w, i32_w]
          rfl
        refine pure_ (i := 1) (N := some 31) (v := ?_) (a' := ?_) #[true, true, false, false, false, false, false, false, false, false, false, false, false, false, false, false, false] rfl rfl (by kernel_rfl) (fun _ _ _ h => h) (Or.inl ⟨by rfl, ?_⟩) ?_ ?_
        rotate_left
        · intro w'
          go_simp
          with_reducible rfl
        rotate_left
        · simp only [Act.put, List.setIfInBounds_toArray, List.set_cons_zero, List.set_cons_succ, i64_w, i32_w]
          rfl
        refine pure_ (i := 2) (N := some 32) (v := ?_) (a' := ?_) #[true, true, true, false, false, false, false, false, false, false, false, false, false, false, false, false, false] rfl rfl (by kernel_rfl) (fun _ _ _ h => h) (Or.inl ⟨by rfl, ?_⟩) ?_ ?_
        rotate_left
        · intro w'
          go_simp
          with_reducible rfl
        rotate_left
        · simp only [Act.put, List.setIfInBounds_toArray, List.set_cons_zero, List.set_cons_succ, i64_w, i32_w]
          rfl
        refine take_ (i := 3) (N := some 33) (v := ?_) (a' := ?_) #[true, true, true, true, false, false, false, false, false, false, false, false, false, false, false, false, false] rfl rfl (by kernel_rfl) (fun _ _ _ h => h) (Or.inl ⟨by rfl, ?_⟩) hHeld ?_ ?_
        rotate_left
        · rintro w' ⟨s0, s1, s2⟩
          go_simp
          with_reducible rfl
        rotate_left
        · simp only [Act.put, List.setIfInBounds_toArray, List.set_cons_zero, List.set_cons_succ, i64_w, i32_w]
          rfl
        refine pure_ (i := 4) (N := some 34) (v := ?_) (a' := ?_) #[true, true, true, true, true, false, false, false, false, false, false, false, false, false, false, false, false] rfl rfl (by kernel_rfl) (fun _ _ _ h => h) (Or.inl ⟨by rfl, ?_⟩) ?_ ?_
        rotate_left
        · intro w'
          go_simp
          with_reducible rfl
        rotate_left
        · simp only [Act.put, List.setIfInBounds_toArray, List.set_cons_zero, List.set_cons_succ, i64_w, i32_w]
          rfl
        refine pure_ (i := 5) (N := some 35) (v := ?_) (a' := ?_) #[true, true, true, true, true, true, false, false, false, false, false, false, false, false, false, false, false] rfl rfl (by kernel_rfl) (fun _ _ _ h => h) (Or.inl ⟨by rfl, ?_⟩) ?_ ?_
        rotate_left
        · intro w'
          go_simp
          with_reducible rfl
        rotate_left
        · simp only [Act.put, List.setIfInBounds_toArray, List.set_cons_zero, List.set_cons_succ, i64_w, i32_w]
          rfl
        refine pure_ (i := 6) (N := some 36) (v := ?_) (a' := ?_) #[true, true, true, true, true, true, true, false, false, false, false, false, false, false, false, false, false] rfl rfl (by kernel_rfl) (fun _ _ _ h => h) (Or.inl ⟨by rfl, ?_⟩) ?_ ?_
        rotate_left
        · intro w'
          go_simp
          with_reducible rfl
        rotate_left
        · simp only [Act.put, List.setIfInBounds_toArray, List.set_cons_zero, List.set_cons_succ, i64_w, i32_w]
          rfl
        refine take_ (i := 7) (N := some 37) (v := ?_) (a' := ?_) #[true, true, true, true, true, true, true, true, false, false, false, false, false, false, false, false, false] rfl rfl (by kernel_rfl) (fun _ _ _ h => h) (Or.inl ⟨by rfl, ?_⟩) hHeld ?_ ?_
        rotate_left
        · rintro w' ⟨s0, s1, s2⟩
          go_simp
          with_reducible rfl
        rotate_left
        · simp only [Act.put, List.setIfInBounds_toArray, List.set_cons_zero, List.set_cons_succ, i64_w, i32_w]
          rfl
        refine pure_ (i := 8) (N := some 38) (v := ?_) (a' := ?_) #[true, true, true, true, true, true, true, true, true, false, false, false, false, false, false, false, false] rfl rfl (by kernel_rfl) (fun _ _ _ h => h) (Or.inl ⟨by rfl, ?_⟩) ?_ ?_
        rotate_left
        · intro w'
          go_simp
          with_reducible rfl
        rotate_left
        · simp only [Act.put, List.setIfInBounds_toArray, List.set_cons_zero, List.set_cons_succ, i64_w, i32_w]
          rfl
        refine pure_ (i := 9) (N := some 39) (v := ?_) (a' := ?_) #[true, true, true, true, true, true, true, true, true, true, false, false, false, false, false, false, false] rfl rfl (by kernel_rfl) (fun _ _ _ h => h) (Or.inl ⟨by rfl, ?_⟩) ?_ ?_
        rotate_left
        · intro w'
          go_simp
          with_reducible rfl
        rotate_left
        · simp only [Act.put, List.setIfInBounds_toArray, List.set_cons_zero, List.set_cons_succ, i64_w, i32_w]
          rfl
        refine pure_ (i := 10) (N := some 40) (v := ?_) (a' := ?_) #[true, true, true, true, true, true, true, true, true, true, true, false, false, false, false, false, false] rfl rfl (by kernel_rfl) (fun _ _ _ h => h) (Or.inl ⟨by rfl, ?_⟩) ?_ ?_
        rotate_left
        · intro w'
          go_simp
          with_reducible rfl
        rotate_left
        · simp only [Act.put, List.setIfInBounds_toArray, List.set_cons_zero, List.set_cons_succ, i64_w, i32_w]
          rfl
        refine take_ (i := 11) (N := some 41) (v := ?_) (a' := ?_) #[true, true, true, true, true, true, true, true, true, true, true, true, false, false, false, false, false] rfl rfl (by kernel_rfl) (fun _ _ _ h => h) (Or.inl ⟨by rfl, ?_⟩) hHeld ?_ ?_
        rotate_left
        · rintro w' ⟨s0, s1, s2⟩
          go_simp
          with_reducible rfl
        rotate_left
        · simp only [Act.put, List.setIfInBounds_toArray, List.set_cons_zero, List.set_cons_succ, i64_w, i32_w]
          rfl
        refine pure_ (i := 12) (N := some 42) (v := ?_) (a' := ?_) #[true, true, true, true, true, true, true, true, true, true, true, true, true, false, false, false, false] rfl rfl (by kernel_rfl) (fun _ _ _ h => h) (Or.inl ⟨by rfl, ?_⟩) ?_ ?_
        rotate_left
        · intro w'
          go_simp
          with_reducible rfl
        rotate_left
        · simp only [Act.put, List.setIfInBounds_toArray, List.set_cons_zero, List.set_cons_succ, i64_w, i32_w]
          rfl
        refine pure_ (i := 13) (N := some 43) (v := ?_) (a' := ?_) #[true, true, true, true, true, true, true, true, true, true, true, true, true, true, false, false, false] rfl rfl (by kernel_rfl) (fun _ _ _ h => h) (Or.inl ⟨by rfl, ?_⟩) ?_ ?_
        rotate_left
        · intro w'
          go_simp
          with_reducible rfl
        rotate_left
        · simp only [Act.put, List.setIfInBounds_toArray, List.set_cons_zero, List.set_cons_succ, i64_w, i32_w]
          rfl
        refine pure_ (i := 14) (N := some 44) (v := ?_) (a' := ?_) #[true, true, true, true, true, true, true, true, true, true, true, true, true, true, true, false, false] rfl rfl (by kernel_rfl) (fun _ _ _ h => h) (Or.inl ⟨by rfl, ?_⟩) ?_ ?_
        rotate_left
        · intro w'
          go_simp
          with_reducible rfl
        rotate_left
        · simp only [Act.put, List.setIfInBounds_toArray, List.set_cons_zero, List.set_cons_succ, i64_w, i32_w]
          rfl
        refine take_ (i := 15) (N := some 45) (v := ?_) (a' := ?_) #[true, true, true, true, true, true, true, true, true, true, true, true, true, true, true, true, false] rfl rfl (by kernel_rfl) (fun _ _ _ h => h) (Or.inl ⟨by rfl, ?_⟩) hHeld ?_ ?_
        rotate_left
        · rintro w' ⟨s0, s1, s2⟩
          go_simp
          with_reducible rfl
        rotate_left
        · simp only [Act.put, List.setIfInBounds_toArray, List.set_cons_zero, List.set_cons_succ, i64_w, i32_w]
          rfl
        refine pure_ (i := 16) (N := some 6) (v := ?_) (a' := ?_) #[true, true, true, true, true, true, true, true, true, true, true, true, true, true, true, true, true] rfl rfl (by kernel_rfl) (fun _ _ _ h => h) (Or.inl ⟨by rfl, ?_⟩) ?_ ?_
        rotate_left
        · intro w'
          go_simp
          with_reducible rfl
        rotate_left
        · simp only [Act.put, List.setIfInBounds_toArray, List.set_cons_zero, List.set_cons_succ, i64_w, i32_w]
          rfl
        refine done_ (by kernel_rfl) ?_
        have hcz3_1 := cellS37_1 HG3
        have hfz3_1 := blk_frozen HG3 1
        clear HG3
        go_wp2
        repeat (go_quiet (fail); try go_wp2)
        all_goals go_ret
        all_goals exact ⟨by rw [HRR.out]; rfl, by repeat (first | (with_reducible first | exact HI0.out | apply IsS37.drewN | apply IsS37.drew | apply IsS37.set_1 | apply IsS37.set_2) | exact HI0.out), by repeat (first | (with_reducible first | exact HB.out | apply below_alloc | apply pw_below_drewN | apply below_drew1 | refine below_set ?_ (IsS37.ge HI0.out)) | exact HB.out), by repeat (first | (with_reducible first | exact HK.out | apply KeepBut.set_ | apply keep_drewN | apply keep_drew | apply keep_alloc) | exact HK.out)⟩
    · rw [if_neg hc] at h2; cases h2
  · rw [if_pos hz] at h2
    have hzb : (t2 != 0) = true := bne_iff_ne.mpr hz
    simp only [Option.some.injEq, Prod.mk.injEq] at h2
    obtain ⟨rfl, rfl, rfl⟩ := h2
    clear HGz2
    go_wp2
    go_ret
    exact ⟨rfl, by repeat (first | (with_reducible first | exact HI0.out | apply IsS37.drewN | apply IsS37.drew | apply IsS37.set_1 | apply IsS37.set_2) | exact HI0.out), by repeat (first | (with_reducible first | exact HB.out | apply below_alloc | apply pw_below_drewN | apply below_drew1 | refine below_set ?_ (IsS37.ge HI0.out)) | exact HB.out), by repeat (first | (with_reducible first | exact HK.out | apply KeepBut.set_ | apply keep_drewN | apply keep_drew | apply keep_alloc) | exact HK.out)⟩

/-! ### cenotaphref07_Take: function 15 -/
theorem rf_call {w : World} {g : Nat} {l : List Int} {a e : Int} (h : RD 37 w g l a e) : IsS37 (cutW w g) w g l a e ∧ Below (cutW w g).heap.size (cutW w g) w := by
  have hlt := h.lt
  obtain ⟨A, c, hg, hc⟩ := h
  exact ⟨⟨A, c, hg, by rw [cutW_size (Nat.le_of_lt hlt)]; exact Nat.le_refl _, hc⟩, cutW_below (Nat.le_of_lt hlt)⟩
theorem rf_of {w1 w : World} {g : Nat} {l : List Int} {a e : Int} (h : IsS37 w1 w g l a e) (hb : Below w1.heap.size w1 w) : RD 37 w g l a e := by
  obtain ⟨A, c, hg, hge, hc⟩ := h
  exact RD.of hg hge hc hb
theorem rf_num (k : Nat) (g : Nat) (l : List Int) (a e m r1 r2 r3 : Int) (w : World) (hI : RD 37 w g l a e) (h : cenotaphref06_Reader_Num.f k l a e m = some (r1, r2, r3)) :
    Calls Try.prog 35 #[.pointer (some ⟨g, 0, none⟩), .int .i64 m] w fun x w' => x = .returned (.int .i64 r1) ∧ RD 37 w' g l r2 r3 ∧ (∀ w0 : World, w0.heap.size ≤ g → Below w0.heap.size w0 w → Below w0.heap.size w0 w') ∧ KeepBut w w' g none := by
  obtain ⟨hi, hb⟩ := rf_call hI
  refine (cenotaphref06_Reader_Num.calls k g l a e m r1 r2 r3 _ w hi hb h).mono ?_
  rintro x w' ⟨rfl, hi, hb, hk⟩
  exact ⟨rfl, rf_of hi hb, fun w0 hge hB => hI.base hge hB hb hk, hk⟩
theorem rf_text (k : Nat) (g : Nat) (l : List Int) (a e m : Int) (r1 : ByteArray) (r2 r3 : Int) (w : World) (hI : RD 37 w g l a e) (h : cenotaphref06_Reader_Text.f k l a e m = some (r1, r2, r3)) :
    Calls Try.prog 36 #[.pointer (some ⟨g, 0, none⟩), .int .i64 m] w fun x w' => x = .returned (.string r1) ∧ RD 37 w' g l r2 r3 ∧ (∀ w0 : World, w0.heap.size ≤ g → Below w0.heap.size w0 w → Below w0.heap.size w0 w') ∧ KeepBut w w' g none := by
  obtain ⟨hi, hb⟩ := rf_call hI
  refine (cenotaphref06_Reader_Text.calls k g l a e m r1 r2 r3 _ w hi hb h).mono ?_
  rintro x w' ⟨rfl, hi, hb, hk⟩
  exact ⟨rfl, rf_of hi hb, fun w0 hge hB => hI.base hge hB hb hk, hk⟩
theorem rf_cell {w : World} {g : Nat} {l : List Int} {a e : Int} (h : RD 37 w g l a e) : w.cell? ⟨g, 2, none⟩ = some (.int .i64 e) := by
  obtain ⟨A, c, hg, -⟩ := h
  exact (blk_cell hg 2).trans rfl
theorem tk_put9 {t T : TypeId} {w W : World} {g gr gx : Nat} {l : List Int} {a e : Int} {o0 o1 o2 o3 o4 o5 o6 o7 o8 : Value} {cs : Array Value} (h : TK t T w W g gr gx l a e #[o0, o1, o2, o3, o4, o5, o6, o7, o8] cs) (v0 v1 v2 v3 v4 v5 v6 v7 v8 : Value) :
    TK t T w (((((((((W.setCell ⟨gr, 0, none⟩ v0).setCell ⟨gr, 1, none⟩ v1).setCell ⟨gr, 2, none⟩ v2).setCell ⟨gr, 3, none⟩ v3).setCell ⟨gr, 4, none⟩ v4).setCell ⟨gr, 5, none⟩ v5).setCell ⟨gr, 6, none⟩ v6).setCell ⟨gr, 7, none⟩ v7).setCell ⟨gr, 8, none⟩ v8) g gr gx l a e #[v0, v1, v2, v3, v4, v5, v6, v7, v8] cs := by
  have h0 : TK t T w (W.setCell ⟨gr, 0, none⟩ v0) g gr gx l a e #[v0, o1, o2, o3, o4, o5, o6, o7, o8] cs := h.setr 0 v0
  have h1 : TK t T w ((W.setCell ⟨gr, 0, none⟩ v0).setCell ⟨gr, 1, none⟩ v1) g gr gx l a e #[v0, v1, o2, o3, o4, o5, o6, o7, o8] cs := h0.setr 1 v1
  have h2 : TK t T w (((W.setCell ⟨gr, 0, none⟩ v0).setCell ⟨gr, 1, none⟩ v1).setCell ⟨gr, 2, none⟩ v2) g gr gx l a e #[v0, v1, v2, o3, o4, o5, o6, o7, o8] cs := h1.setr 2 v2
  have h3 : TK t T w ((((W.setCell ⟨gr, 0, none⟩ v0).setCell ⟨gr, 1, none⟩ v1).setCell ⟨gr, 2, none⟩ v2).setCell ⟨gr, 3, none⟩ v3) g gr gx l a e #[v0, v1, v2, v3, o4, o5, o6, o7, o8] cs := h2.setr 3 v3
  have h4 : TK t T w (((((W.setCell ⟨gr, 0, none⟩ v0).setCell ⟨gr, 1, none⟩ v1).setCell ⟨gr, 2, none⟩ v2).setCell ⟨gr, 3, none⟩ v3).setCell ⟨gr, 4, none⟩ v4) g gr gx l a e #[v0, v1, v2, v3, v4, o5, o6, o7, o8] cs := h3.setr 4 v4
  have h5 : TK t T w ((((((W.setCell ⟨gr, 0, none⟩ v0).setCell ⟨gr, 1, none⟩ v1).setCell ⟨gr, 2, none⟩ v2).setCell ⟨gr, 3, none⟩ v3).setCell ⟨gr, 4, none⟩ v4).setCell ⟨gr, 5, none⟩ v5) g gr gx l a e #[v0, v1, v2, v3, v4, v5, o6, o7, o8] cs := h4.setr 5 v5
  have h6 : TK t T w (((((((W.setCell ⟨gr, 0, none⟩ v0).setCell ⟨gr, 1, none⟩ v1).setCell ⟨gr, 2, none⟩ v2).setCell ⟨gr, 3, none⟩ v3).setCell ⟨gr, 4, none⟩ v4).setCell ⟨gr, 5, none⟩ v5).setCell ⟨gr, 6, none⟩ v6) g gr gx l a e #[v0, v1, v2, v3, v4, v5, v6, o7, o8] cs := h5.setr 6 v6
  have h7 : TK t T w ((((((((W.setCell ⟨gr, 0, none⟩ v0).setCell ⟨gr, 1, none⟩ v1).setCell ⟨gr, 2, none⟩ v2).setCell ⟨gr, 3, none⟩ v3).setCell ⟨gr, 4, none⟩ v4).setCell ⟨gr, 5, none⟩ v5).setCell ⟨gr, 6, none⟩ v6).setCell ⟨gr, 7, none⟩ v7) g gr gx l a e #[v0, v1, v2, v3, v4, v5, v6, v7, o8] cs := h6.setr 7 v7
  have h8 : TK t T w (((((((((W.setCell ⟨gr, 0, none⟩ v0).setCell ⟨gr, 1, none⟩ v1).setCell ⟨gr, 2, none⟩ v2).setCell ⟨gr, 3, none⟩ v3).setCell ⟨gr, 4, none⟩ v4).setCell ⟨gr, 5, none⟩ v5).setCell ⟨gr, 6, none⟩ v6).setCell ⟨gr, 7, none⟩ v7).setCell ⟨gr, 8, none⟩ v8) g gr gx l a e #[v0, v1, v2, v3, v4, v5, v6, v7, v8] cs := h7.setr 8 v8
  exact h8
def rfPart (k : Nat) (l : List Int) (a e : Int) : Option (Int × Int × Int) := (cenotaphref06_Reader_Num.f k l a e 2000).bind fun p => if 0 ≤ p.1 ∧ p.1 ≤ 2000 then some (p.1 - 1000, p.2.1, p.2.2) else none
def rfSpot (k : Nat) (l : List Int) (kd a e : Int) : Option (Int × Int × Int × Int) := if kd > 0 then (rfPart k l a e).bind fun p => (rfPart k l p.2.1 p.2.2).bind fun p' => some (p.1, p'.1, p'.2.1, p'.2.2) else some (0, 0, a, e)
def rfText (k : Nat) (l : List Int) (kd a e : Int) : Option (ByteArray × Int × Int) := if kd = 2 then cenotaphref06_Reader_Text.f k l a e 16 else some (⟨#[]⟩, a, e)
def It.rright (k : Nat) (I : It) : Option Bool := cenotaphref07_Right.f k I.k I.i I.q I.s I.d I.x I.y I.t I.h
def rfEnd (k : Nat) (I : It) (a e : Int) : Option (It × Bool × Int × Int) := if e = 0 then (I.rright k).bind fun r => if r = true then some (I, true, a, e) else some (It.zero, false, a, e) else some (It.zero, false, a, e)
def rfTake (k : Nat) (l : List Int) (a e : Int) : Option (It × Bool × Int × Int) :=
  (cenotaphref06_Reader_Num.f k l a e 31).bind fun p1 => (cenotaphref06_Reader_Text.f k l p1.2.1 p1.2.2 6).bind fun p2 => (cenotaphref06_Reader_Num.f k l p2.2.1 p2.2.2 1048576).bind fun p3 => (cenotaphref06_Reader_Num.f k l p3.2.1 p3.2.2 1048576).bind fun p4 =>
  (cenotaphref06_Reader_Num.f k l p4.2.1 p4.2.2 2).bind fun p5 => (rfSpot k l p5.1 p5.2.1 p5.2.2).bind fun p6 => (rfText k l p5.1 p6.2.2.1 p6.2.2.2).bind fun p7 =>
  rfEnd k ⟨p1.1, p2.1, p3.1, p4.1, p5.1 == 0, p6.1, p6.2.1, p7.1, p5.1 == 2⟩ p7.2.1 p7.2.2
set_option maxHeartbeats 8000000 in
set_option maxRecDepth 100000 in
theorem rf_take (k : Nat) (g : Nat) (l : List Int) (a e : Int) (I : It) (ok : Bool) (a' e' : Int) (w : World) (hI : RD 37 w g l a e) (h : rfTake k l a e = some (I, ok, a', e')) :
    Calls Try.prog 15 #[.pointer (some ⟨g, 0, none⟩)] w fun x w' => x = .returned (.tuple #[.agg #[.int .i64 I.k, .string I.i, .int .i64 I.q, .int .i64 I.s, .bool I.d, .int .i64 I.x, .int .i64 I.y, .string I.t, .bool I.h], .bool ok]) ∧ RD 37 w' g l a' e' ∧ (∀ w0 : World, w0.heap.size ≤ g → Below w0.heap.size w0 w → Below w0.heap.size w0 w') ∧ KeepBut w w' g none := by
  obtain ⟨⟨n1, a1, e1⟩, f1, h⟩ := Option.bind_eq_some_iff.mp h
  obtain ⟨⟨t2, a2, e2⟩, f2, h⟩ := Option.bind_eq_some_iff.mp h
  obtain ⟨⟨n3, a3, e3⟩, f3, h⟩ := Option.bind_eq_some_iff.mp h
  obtain ⟨⟨n4, a4, e4⟩, f4, h⟩ := Option.bind_eq_some_iff.mp h
  obtain ⟨⟨n5, a5, e5⟩, f5, h⟩ := Option.bind_eq_some_iff.mp h
  obtain ⟨⟨x6, y6, a6, e6⟩, f6, h⟩ := Option.bind_eq_some_iff.mp h
  obtain ⟨⟨t7, a7, e7⟩, f7, h⟩ := Option.bind_eq_some_iff.mp h
  dsimp only at f1 f2 f3 f4 f5 f6 f7 h
  have F1 := Aside0.mk f1
  have F2 := Aside0.mk f2
  have F3 := Aside0.mk f3
  have F4 := Aside0.mk f4
  have F5 := Aside0.mk f5
  have F6 := Aside0.mk f6
  have F7 := Aside0.mk f7
  have F8 := Aside0.mk h
  clear f1 f2 f3 f4 f5 f6 f7 h
  have e0 : (w.alloc (.cells #[.int .i64 0, .string ⟨#[]⟩, .int .i64 0, .int .i64 0, .bool false, .int .i64 0, .int .i64 0, .string ⟨#[]⟩, .bool false] 46)).heap.size = w.heap.size + 1 := Array.size_push _
  have hlt := hI.lt
  have bn := blk_new (w.alloc (.cells #[.int .i64 0, .string ⟨#[]⟩, .int .i64 0, .int .i64 0, .bool false, .int .i64 0, .int .i64 0, .string ⟨#[]⟩, .bool false] 46)) (.cells #[.int .i64 0, .string ⟨#[]⟩, .int .i64 0, .int .i64 0, .bool false, .int .i64 0, .int .i64 0, .string ⟨#[]⟩, .bool false] 46)
  rw [e0] at bn
  have HT := Aside0.mk (show TK 37 46 w ((w.alloc (.cells #[.int .i64 0, .string ⟨#[]⟩, .int .i64 0, .int .i64 0, .bool false, .int .i64 0, .int .i64 0, .string ⟨#[]⟩, .bool false] 46)).alloc (.cells #[.int .i64 0, .string ⟨#[]⟩, .int .i64 0, .int .i64 0, .bool false, .int .i64 0, .int .i64 0, .string ⟨#[]⟩, .bool false] 46)) g w.heap.size (w.heap.size + 1) l a e #[.int .i64 0, .string ⟨#[]⟩, .int .i64 0, .int .i64 0, .bool false, .int .i64 0, .int .i64 0, .string ⟨#[]⟩, .bool false] #[.int .i64 0, .string ⟨#[]⟩, .int .i64 0, .int .i64 0, .bool false, .int .i64 0, .int .i64 0, .string ⟨#[]⟩, .bool false] from
    ⟨hI.below (below_new _ _), blk_below (blk_new w _) (below_alloc (Below.refl _ _) _), bn, keep_alloc (keep_alloc (KeepBut.refl w g none) _) _, fun w0 hg hB => below_alloc (below_alloc hB _) _, hlt, Nat.le_refl _, Nat.le_succ _, by omega⟩)
  clear hI hlt bn e0
  have hu := Try.underlying46
  go_enter Try.func15, Try.ntmps15
  go_wp2_with fail
  refine (rf_num k g l a e _ n1 a1 e1 _ HT.out.1 F1.out).mono ?_
  rintro ev w1 ⟨rfl, hi, hb, hk⟩
  replace HT := Aside0.mk (HT.out.call hi hb hk)
  clear hi hb hk F1
  obtain ⟨⟨c0, c1, c2, c3, c4, c5, c6, c7, c8⟩, z0, z1, z2, z3, z4, z5, z6, z7, z8⟩ := tf_cells HT.out.2.2.1
  go_wp2_with fail
  replace HT := Aside0.mk (show TK 37 46 w (w1.setCell ⟨w.heap.size + 1, 0, none⟩ (.int .i64 n1)) g w.heap.size (w.heap.size + 1) l a1 e1 #[.int .i64 0, .string ⟨#[]⟩, .int .i64 0, .int .i64 0, .bool false, .int .i64 0, .int .i64 0, .string ⟨#[]⟩, .bool false] #[.int .i64 n1, .string ⟨#[]⟩, .int .i64 0, .int .i64 0, .bool false, .int .i64 0, .int .i64 0, .string ⟨#[]⟩, .bool false] from (HT.out.set 0 (.int .i64 n1)))
  clear c0 c1 c2 c3 c4 c5 c6 c7 c8 z0 z1 z2 z3 z4 z5 z6 z7 z8
  refine (rf_text k g l a1 e1 _ t2 a2 e2 _ HT.out.1 F2.out).mono ?_
  rintro ev w2 ⟨rfl, hi, hb, hk⟩
  replace HT := Aside0.mk (HT.out.call hi hb hk)
  clear hi hb hk F2
  obtain ⟨⟨c0, c1, c2, c3, c4, c5, c6, c7, c8⟩, z0, z1, z2, z3, z4, z5, z6, z7, z8⟩ := tf_cells HT.out.2.2.1
  go_wp2_with fail
  replace HT := Aside0.mk (show TK 37 46 w (w2.setCell ⟨w.heap.size + 1, 1, none⟩ (.string t2)) g w.heap.size (w.heap.size + 1) l a2 e2 #[.int .i64 0, .string ⟨#[]⟩, .int .i64 0, .int .i64 0, .bool false, .int .i64 0, .int .i64 0, .string ⟨#[]⟩, .bool false] #[.int .i64 n1, .string t2, .int .i64 0, .int .i64 0, .bool false, .int .i64 0, .int .i64 0, .string ⟨#[]⟩, .bool false] from (HT.out.set 1 (.string t2)))
  clear c0 c1 c2 c3 c4 c5 c6 c7 c8 z0 z1 z2 z3 z4 z5 z6 z7 z8
  refine (rf_num k g l a2 e2 _ n3 a3 e3 _ HT.out.1 F3.out).mono ?_
  rintro ev w3 ⟨rfl, hi, hb, hk⟩
  replace HT := Aside0.mk (HT.out.call hi hb hk)
  clear hi hb hk F3
  obtain ⟨⟨c0, c1, c2, c3, c4, c5, c6, c7, c8⟩, z0, z1, z2, z3, z4, z5, z6, z7, z8⟩ := tf_cells HT.out.2.2.1
  go_wp2_with fail
  replace HT := Aside0.mk (show TK 37 46 w (w3.setCell ⟨w.heap.size + 1, 2, none⟩ (.int .i64 n3)) g w.heap.size (w.heap.size + 1) l a3 e3 #[.int .i64 0, .string ⟨#[]⟩, .int .i64 0, .int .i64 0, .bool false, .int .i64 0, .int .i64 0, .string ⟨#[]⟩, .bool false] #[.int .i64 n1, .string t2, .int .i64 n3, .int .i64 0, .bool false, .int .i64 0, .int .i64 0, .string ⟨#[]⟩, .bool false] from (HT.out.set 2 (.int .i64 n3)))
  clear c0 c1 c2 c3 c4 c5 c6 c7 c8 z0 z1 z2 z3 z4 z5 z6 z7 z8
  refine (rf_num k g l a3 e3 _ n4 a4 e4 _ HT.out.1 F4.out).mono ?_
  rintro ev w4 ⟨rfl, hi, hb, hk⟩
  replace HT := Aside0.mk (HT.out.call hi hb hk)
  clear hi hb hk F4
  obtain ⟨⟨c0, c1, c2, c3, c4, c5, c6, c7, c8⟩, z0, z1, z2, z3, z4, z5, z6, z7, z8⟩ := tf_cells HT.out.2.2.1
  go_wp2_with fail
  replace HT := Aside0.mk (show TK 37 46 w (w4.setCell ⟨w.heap.size + 1, 3, none⟩ (.int .i64 n4)) g w.heap.size (w.heap.size + 1) l a4 e4 #[.int .i64 0, .string ⟨#[]⟩, .int .i64 0, .int .i64 0, .bool false, .int .i64 0, .int .i64 0, .string ⟨#[]⟩, .bool false] #[.int .i64 n1, .string t2, .int .i64 n3, .int .i64 n4, .bool false, .int .i64 0, .int .i64 0, .string ⟨#[]⟩, .bool false] from (HT.out.set 3 (.int .i64 n4)))
  clear c0 c1 c2 c3 c4 c5 c6 c7 c8 z0 z1 z2 z3 z4 z5 z6 z7 z8
  refine (rf_num k g l a4 e4 _ n5 a5 e5 _ HT.out.1 F5.out).mono ?_
  rintro ev w5 ⟨rfl, hi, hb, hk⟩
  replace HT := Aside0.mk (HT.out.call hi hb hk)
  clear hi hb hk F5
  obtain ⟨⟨c0, c1, c2, c3, c4, c5, c6, c7, c8⟩, z0, z1, z2, z3, z4, z5, z6, z7, z8⟩ := tf_cells HT.out.2.2.1
  go_upto_if 30 with fail
  replace HT := Aside0.mk (show TK 37 46 w ((w5.setCell ⟨w.heap.size + 1, 4, none⟩ (.bool (n5 == 0))).setCell ⟨w.heap.size + 1, 8, none⟩ (.bool (n5 == 2))) g w.heap.size (w.heap.size + 1) l a5 e5 #[.int .i64 0, .string ⟨#[]⟩, .int .i64 0, .int .i64 0, .bool false, .int .i64 0, .int .i64 0, .string ⟨#[]⟩, .bool false] #[.int .i64 n1, .string t2, .int .i64 n3, .int .i64 n4, .bool (n5 == 0), .int .i64 0, .int .i64 0, .string ⟨#[]⟩, .bool (n5 == 2)] from (HT.out.set 4 (.bool (n5 == 0))).set 8 (.bool (n5 == 2)))
  clear c0 c1 c2 c3 c4 c5 c6 c7 c8 z0 z1 z2 z3 z4 z5 z6 z7 z8
  go_cut [] (fun wc => TK 37 46 w wc g w.heap.size (w.heap.size + 1) l a6 e6 #[.int .i64 0, .string ⟨#[]⟩, .int .i64 0, .int .i64 0, .bool false, .int .i64 0, .int .i64 0, .string ⟨#[]⟩, .bool false] #[.int .i64 n1, .string t2, .int .i64 n3, .int .i64 n4, .bool (n5 == 0), .int .i64 x6, .int .i64 y6, .string ⟨#[]⟩, .bool (n5 == 2)])
  case first =>
    generalize ((w5.setCell ⟨w.heap.size + 1, 4, none⟩ (.bool (n5 == 0))).setCell ⟨w.heap.size + 1, 8, none⟩ (.bool (n5 == 2))) = wq at HT ⊢
    have f6 := F6.out
    rw [rfSpot] at f6
    clear F6
    by_cases hn : n5 > 0
    rotate_left
    · have hn1 : decide (0 < n5) = false := decide_eq_false hn
      rw [if_neg hn] at f6
      simp only [Option.some.injEq, Prod.mk.injEq] at f6
      obtain ⟨rfl, rfl, rfl, rfl⟩ := f6
      rw [hn1]
      clear hn hn1
      go_wp2_with fail
      go_meet
      case rel => exact HT.out
    · have hn1 : decide (0 < n5) = true := decide_eq_true hn
      rw [if_pos hn] at f6
      obtain ⟨⟨x8, a8, e8⟩, g8, f6⟩ := Option.bind_eq_some_iff.mp f6
      obtain ⟨⟨x9, a9, e9⟩, g9, f6⟩ := Option.bind_eq_some_iff.mp f6
      dsimp only at g8 g9 f6
      simp only [Option.some.injEq, Prod.mk.injEq] at f6
      obtain ⟨rfl, rfl, rfl, rfl⟩ := f6
      rw [rfPart] at g8 g9
      obtain ⟨⟨m8, b8, d8⟩, j8, k8⟩ := Option.bind_eq_some_iff.mp g8
      obtain ⟨⟨m9, b9, d9⟩, j9, k9⟩ := Option.bind_eq_some_iff.mp g9
      dsimp only at k8 k9
      clear g8 g9
      by_cases hr8 : 0 ≤ m8 ∧ m8 ≤ 2000
      rotate_left
      · rw [if_neg hr8] at k8; cases k8
      by_cases hr9 : 0 ≤ m9 ∧ m9 ≤ 2000
      rotate_left
      · rw [if_neg hr9] at k9; cases k9
      rw [if_pos hr8] at k8
      rw [if_pos hr9] at k9
      simp only [Option.some.injEq, Prod.mk.injEq] at k8 k9
      obtain ⟨rfl, rfl, rfl⟩ := k8
      obtain ⟨rfl, rfl, rfl⟩ := k9
      have J8 := Aside0.mk j8
      have J9 := Aside0.mk j9
      have hw8 : wrap64 (m8 - 1000) = m8 - 1000 := Go.Proofs.Ytkmhanpamdgnjaa.Pure.wrap_id (by omega) (by omega)
      have hw9 : wrap64 (m9 - 1000) = m9 - 1000 := Go.Proofs.Ytkmhanpamdgnjaa.Pure.wrap_id (by omega) (by omega)
      rw [hn1]
      clear j8 j9 hr8 hr9 hn hn1
      go_wp2_with fail
      refine (rf_num k g l a5 e5 _ m8 b8 d8 _ HT.out.1 J8.out).mono ?_
      rintro ev w6 ⟨rfl, hi, hb, hk⟩
      replace HT := Aside0.mk (HT.out.call hi hb hk)
      clear hi hb hk J8
      obtain ⟨⟨c0, c1, c2, c3, c4, c5, c6, c7, c8⟩, z0, z1, z2, z3, z4, z5, z6, z7, z8⟩ := tf_cells HT.out.2.2.1
      go_wp2_with fail
      replace HT := Aside0.mk (show TK 37 46 w (w6.setCell ⟨w.heap.size + 1, 5, none⟩ (.int .i64 (m8 - 1000))) g w.heap.size (w.heap.size + 1) l b8 d8 #[.int .i64 0, .string ⟨#[]⟩, .int .i64 0, .int .i64 0, .bool false, .int .i64 0, .int .i64 0, .string ⟨#[]⟩, .bool false] #[.int .i64 n1, .string t2, .int .i64 n3, .int .i64 n4, .bool (n5 == 0), .int .i64 (m8 - 1000), .int .i64 0, .string ⟨#[]⟩, .bool (n5 == 2)] from HT.out.set 5 (.int .i64 (m8 - 1000)))
      clear c0 c1 c2 c3 c4 c5 c6 c7 c8 z0 z1 z2 z3 z4 z5 z6 z7 z8
      refine (rf_num k g l b8 d8 _ m9 b9 d9 _ HT.out.1 J9.out).mono ?_
      rintro ev w7 ⟨rfl, hi, hb, hk⟩
      replace HT := Aside0.mk (HT.out.call hi hb hk)
      clear hi hb hk J9
      obtain ⟨⟨c0, c1, c2, c3, c4, c5, c6, c7, c8⟩, z0, z1, z2, z3, z4, z5, z6, z7, z8⟩ := tf_cells HT.out.2.2.1
      go_wp2_with fail
      go_meet
      case rel => exact HT.out.set 6 (.int .i64 (m9 - 1000))
  case rest =>
    clear HT F6
    have HT := Aside0.mk hcut
    clear hcut
    go_upto_if 42 with fail
    go_cut [] (fun wd => TK 37 46 w wd g w.heap.size (w.heap.size + 1) l a7 e7 #[.int .i64 0, .string ⟨#[]⟩, .int .i64 0, .int .i64 0, .bool false, .int .i64 0, .int .i64 0, .string ⟨#[]⟩, .bool false] #[.int .i64 n1, .string t2, .int .i64 n3, .int .i64 n4, .bool (n5 == 0), .int .i64 x6, .int .i64 y6, .string t7, .bool (n5 == 2)])
    case first =>
      have f7 := F7.out
      rw [rfText] at f7
      clear F7
      by_cases hn : n5 = 2
      · have hn1 : (n5 == 2) = true := beq_iff_eq.mpr hn
        rw [if_pos hn] at f7
        rw [hn1]
        clear hn hn1
        go_wp2_with fail
        refine (rf_text k g l a6 e6 _ t7 a7 e7 _ HT.out.1 f7).mono ?_
        rintro ev w6 ⟨rfl, hi, hb, hk⟩
        replace HT := Aside0.mk (HT.out.call hi hb hk)
        clear hi hb hk f7
        obtain ⟨⟨c0, c1, c2, c3, c4, c5, c6, c7, c8⟩, z0, z1, z2, z3, z4, z5, z6, z7, z8⟩ := tf_cells HT.out.2.2.1
        go_wp2_with fail
        go_meet
        case rel => exact HT.out.set 7 (.string t7)
      · have hn1 : (n5 == 2) = false := beq_eq_false_iff_ne.mpr hn
        rw [if_neg hn] at f7
        simp only [Option.some.injEq, Prod.mk.injEq] at f7
        obtain ⟨rfl, rfl, rfl⟩ := f7
        rw [hn1]
        clear hn hn1
        go_wp2_with fail
        go_meet
        case rel => exact HT.out
    case rest =>
      clear HT F7
      have HT := Aside0.mk hcut
      clear hcut
      have hbad := rf_cell HT.out.1
      have f8 := F8.out
      rw [rfEnd] at f8
      clear F8
      by_cases he : e7 = 0
      rotate_left
      · have he1 : (e7 != 0) = true := bne_iff_ne.mpr he
        rw [if_neg he] at f8
        simp only [Option.some.injEq, Prod.mk.injEq] at f8
        obtain ⟨rfl, rfl, rfl, rfl⟩ := f8
        obtain ⟨⟨c0, c1, c2, c3, c4, c5, c6, c7, c8⟩, z0, z1, z2, z3, z4, z5, z6, z7, z8⟩ := tf_cells HT.out.2.1
        go_wp2_with fail
        have ht := tk_put9 HT.out (.int .i64 0) (.string ⟨#[]⟩) (.int .i64 0) (.int .i64 0) (.bool false) (.int .i64 0) (.int .i64 0) (.string ⟨#[]⟩) (.bool false)
        exact bodyPost_ret (results_ct rfl _ _ w.heap.size 46 _ (0, 0) _ rfl ht.2.1 hu rfl (by kernel_rfl)) rfl ⟨rfl, ht.1, ht.2.2.2.2.1, ht.2.2.2.1⟩
      have he1 : (e7 != 0) = false := bne_eq_false_iff_eq.mpr he
      rw [if_pos he] at f8
      clear he
      obtain ⟨rt, hrt, f8⟩ := Option.bind_eq_some_iff.mp f8
      have HRT := Aside0.mk (show cenotaphref07_Right.f k n1 t2 n3 n4 (n5 == 0) x6 y6 t7 (n5 == 2) = some rt from hrt)
      have F8 := Aside0.mk f8
      clear hrt f8
      obtain ⟨⟨c0, c1, c2, c3, c4, c5, c6, c7, c8⟩, z0, z1, z2, z3, z4, z5, z6, z7, z8⟩ := tf_cells HT.out.2.2.1
      go_wp2_with fail
      refine (cenotaphref07_Right.calls k n1 t2 n3 n4 (n5 == 0) x6 y6 t7 (n5 == 2) rt _ HRT.out).mono ?_
      rintro ev w9 ⟨rfl, hb⟩
      replace HT := Aside0.mk (HT.out.below hb)
      clear hb hbad
      clear c0 c1 c2 c3 c4 c5 c6 c7 c8 z0 z1 z2 z3 z4 z5 z6 z7 z8
      have f8 := F8.out
      clear F8
      cases rt with
      | false =>
        rw [if_neg (by decide)] at f8
        simp only [Option.some.injEq, Prod.mk.injEq] at f8
        obtain ⟨rfl, rfl, rfl, rfl⟩ := f8
        obtain ⟨⟨c0, c1, c2, c3, c4, c5, c6, c7, c8⟩, z0, z1, z2, z3, z4, z5, z6, z7, z8⟩ := tf_cells HT.out.2.1
        go_wp2_with fail
        have ht := tk_put9 HT.out (.int .i64 0) (.string ⟨#[]⟩) (.int .i64 0) (.int .i64 0) (.bool false) (.int .i64 0) (.int .i64 0) (.string ⟨#[]⟩) (.bool false)
        exact bodyPost_ret (results_ct rfl _ _ w.heap.size 46 _ (0, 0) _ rfl ht.2.1 hu rfl (by kernel_rfl)) rfl ⟨rfl, ht.1, ht.2.2.2.2.1, ht.2.2.2.1⟩
      | true =>
        rw [if_pos rfl] at f8
        simp only [Option.some.injEq, Prod.mk.injEq] at f8
        obtain ⟨rfl, rfl, rfl, rfl⟩ := f8
        obtain ⟨⟨c0, c1, c2, c3, c4, c5, c6, c7, c8⟩, z0, z1, z2, z3, z4, z5, z6, z7, z8⟩ := tf_cells HT.out.2.1
        obtain ⟨⟨d0, d1, d2, d3, d4, d5, d6, d7, d8⟩, -⟩ := tf_cells HT.out.2.2.1
        go_wp2_with fail
        have ht := tk_put9 HT.out (.int .i64 n1) (.string t2) (.int .i64 n3) (.int .i64 n4) (.bool (n5 == 0)) (.int .i64 x6) (.int .i64 y6) (.string t7) (.bool (n5 == 2))
        exact bodyPost_ret (results_ct rfl _ _ w.heap.size 46 _ (0, 0) _ rfl ht.2.1 hu rfl (by kernel_rfl)) rfl ⟨rfl, ht.1, ht.2.2.2.2.1, ht.2.2.2.1⟩
def cenotaphref07_Take.f (k : Nat) (l : List Int) (a e : Int) : Option (It × Bool × Int × Int) := rfTake k l a e

/-! ### cenotaphlaw07_ItemTakes: function 4 -/
attribute [local go_sem] run_store_complex
def cenotaphlaw07_ItemTakes.f (k : Nat) (l0 : List Int) : Option Bool := (itTake k (l0.take 200) 0 0).bind fun p => (rfTake k (l0.take 200) 0 0).bind fun q =>
  if p.2.1 = q.2.1 ∧ p.1.ok ∧ p.1.eq q.1 = true ∧ p.2.2.2 = q.2.2.2 then (if p.2.1 = false then some true else (itPut k [] p.1).bind fun c => if c.length ≤ (l0.take 200).length ∧ (strOfNums c).toList = (strOfNums ((l0.take 200).take c.length)).toList then some true else none) else none
theorem takes_cut {w : World} {xs : List Int} (A : Option Addr) (n c : Nat) (hh : Int) (h0 : 0 ≤ hh) (h2 : hh ≤ (n : Int)) (hc : n ≤ c) (h : (Kd.int .u8).C w A n xs) : (Kd.int .u8).C w A hh.toNat (xs.take hh.toNat) :=
  Kd.C_of_reads (enc := Value.int .u8) (d := (0 : Int)) (h1 := fun _ => rfl) ((Kd.reads_of_C (enc := Value.int .u8) (d := (0 : Int)) (h1 := fun _ => rfl) h).take_ hh.toNat (by omega))
set_option maxHeartbeats 8000000 in
set_option maxRecDepth 100000 in
theorem cenotaphlaw07_ItemTakes.calls (k : Nat) (A0 : Option Addr) (c0 : Nat) (l0 : List Int) (r : Bool) (w : World) (hr0 : Kd.C (Kd.int .u8) w A0 l0.length l0) (hc0 : l0.length ≤ c0) (h : cenotaphlaw07_ItemTakes.f k l0 = some r) :
    Calls Try.prog 4 #[.slice A0 l0.length c0] w fun e w' => e = .returned (.bool r) ∧ Below w.heap.size w w' := by
  have HB := Aside0.mk (Below.refl w.heap.size w)
  obtain ⟨m, hm⟩ : ∃ m : Int, (if 200 < (l0.length : Int) then 200 else (l0.length : Int)) = m := ⟨_, rfl⟩
  have hm0 : 0 ≤ m := by rw [← hm]; split <;> omega
  have hm1 : m ≤ (l0.length : Int) := by rw [← hm]; split <;> omega
  have hm2 : m ≤ 200 := by rw [← hm]; split <;> omega
  have htk : l0.take 200 = l0.take m.toNat := by
    rw [← hm]; split
    · rfl
    · rw [Int.toNat_natCast, List.take_length, List.take_of_length_le (by omega)]
  have hlen : (l0.take m.toNat).length = m.toNat := by rw [List.length_take]; omega
  have HC0 := Aside0.mk (takes_cut A0 l0.length c0 m hm0 hm1 hc0 hr0)
  have hl0 := hr0.2.1
  rw [cenotaphlaw07_ItemTakes.f, htk] at h
  clear hr0 htk
  generalize l0.take m.toNat = L at hlen HC0 h
  obtain rfl : m = (L.length : Int) := by omega
  rw [Int.toNat_natCast] at HC0
  clear hlen
  obtain ⟨⟨I, ok, a, e⟩, hI, h⟩ := Option.bind_eq_some_iff.mp h
  obtain ⟨⟨J, ok', a', e'⟩, hJ, h⟩ := Option.bind_eq_some_iff.mp h
  dsimp only at h
  by_cases hok : ok = ok' ∧ I.ok ∧ I.eq J = true ∧ e = e'
  rotate_left
  · rw [if_neg hok] at h; cases h
  rw [if_pos hok] at h
  obtain ⟨rfl, hio, heq, rfl⟩ := hok
  have hne := fun (W : World) => neq_ref I J W
  rw [heq, show (!true) = false from rfl] at hne
  have HNE := Aside0.mk hne
  have HF := Aside0.mk (fun (W : World) => it_from I.k I.i I.q I.s I.d I.x I.y I.t I.h W hio.1 hio.2)
  have HP := Aside0.mk (fun (c : List Int) (W : World) (hc : itPut k [] I = some c) => it_put k none 0 [] I c W (Kd.C_nil _ _) (Nat.le_refl _) hio.1 hio.2 hc)
  have HT := Aside0.mk (fun (g : Nat) (W : World) (hi : RD 69 W g L 0 0) => it_take k g L 0 0 I ok a e W hi hI)
  have HU := Aside0.mk (fun (g : Nat) (W : World) (hi : RD 37 W g L 0 0) => rf_take k g L 0 0 J ok a' e W hi hJ)
  have H := Aside0.mk h
  clear hne heq hio hI hJ h
  have q1 := eq_true hm0
  have q2 := eq_true (show (L.length : Int) ≤ (c0 : Int) by omega)
  have hmc : L.length ≤ c0 := by omega
  have hu := Try.underlying46
  have hu2 := Try.underlying40
  have HX := Aside0.mk (show ([] : List Int) ++ L = L from rfl)
  go_enter Try.func4, Try.ntmps4
  go_wp2_with fail
  refine (rd_read A0 c0 L w HC0.out hmc (by omega)).mono ?_
  rintro ev w9 ⟨g, rfl, hi, hge, hb⟩
  have HI := Aside0.mk hi
  have HGE := Aside0.mk (Nat.le_trans HB.out.size hge)
  replace HB := Aside0.mk (below_step HB.out hb)
  clear hi hge hb
  have HB9 := Aside0.mk (Below.refl w9.heap.size w9)
  go_wp2_with (first | ((with_reducible refine gate_dst (N := 17) rfl ?_); refine Kd.R_lit (Kd.int .u8) _ 5 ?hg (N := 17) ?hd (xs := ([] : List Int)) (inner := []) (ok := fun _ => True) (okp := fun _ => True) ?hr ?hp (fun _ hk => hk) trivial (Below.refl _ _) (Nat.le_refl _) (by simp) ?_; (case hd => rfl); (case hg => rfl); (case hr => first | (go_simp; done) | (go_simp; rfl)); (case hp => exact (Reps.none _ _)); intro v243 w6 ho7 hb hg_ hnew_; clear hg_ hnew_; have n0_ := Aside0.mk (Kd.R_lower ho7 (below_size HB9.out)); have n1_ := Aside0.mk (below_step HB9.out hb); clear HB9; have HO244 := n0_; have HB9 := n1_; clear n0_ n1_; clear hb ho7) | ((with_reducible refine gate_builtin (b := .append) (xs := #[.tmp 17, .tmp 18]) rfl ?_); at_builtin; refine Kd.R_append_rows (Kd.int .u8) (w0 := w9) w9.heap.size rfl (.tmp 17) (.tmp 18) 32 5 (.int .u8 0) 1 rfl Try.underlying32 info5 rfl (by decide) (by omega) v243 ([] : List Int) L _ _ _ (fun _ => True) (fun _ => False) rfl rfl ?aO ?aR (fun _ _ h => h) (fun _ h => h.elim) ?aF ?aB ?aS ?aL ?_; (case aR => repeat (first | exact (Kd.C_below (Kd.C_below HC0.out HB.out) HB9.out) | (with_reducible refine Kd.C_alloc ?_ _) | (with_reducible refine Kd.C_drewN ?_ _) | (with_reducible refine Kd.C_drew ?_))); (case aB => exact HB9.out); (case aF => exact (fun _ _ => trivial)); (case aO => exact (by (with_reducible repeat (first | apply Kd.R_alloc | apply Kd.R_drewN | apply Kd.R_drew)); exact HO244.out)); (case aS => exact (below_size HB9.out)); (case aL => simp; omega); intro v246 w18 ho hb hg hat; rw [HX.out] at ho; obtain ⟨A6, c6, rfl, hl6, hC6⟩ := Kd.R_reads ho; obtain ⟨d6, rfl⟩ : ∃ d, c6 = L.length + d := ⟨c6 - L.length, by omega⟩; have HC6 := Aside0.mk hC6; have n0_ := Aside0.mk (hb); clear HB9; clear HO244; have HB9 := n0_; clear n0_; clear ho hb hg hat hl6 hC6))
  have hnew := blk_new w18 (.cells #[.slice A6 L.length (L.length + d6), .int .i64 0, .int .i64 0] 37)
  have HR := Aside0.mk (RD.of (w1 := w18) (l := L) (c := d6) hnew (Nat.le_refl _) HC6.out (below_alloc (Below.refl _ _) _))
  replace HB := Aside0.mk (below_step HB.out (below_alloc HB9.out (.cells #[.slice A6 L.length (L.length + d6), .int .i64 0, .int .i64 0] 37)))
  have HNG := Aside0.mk (show w18.heap.size ≠ g by have h1 := HI.out.lt; have h2 := HB9.out.size; omega)
  have HGE2 := Aside0.mk (show w.heap.size ≤ w18.heap.size by have h1 := HI.out.lt; have h2 := HB9.out.size; have h3 := HGE.out; omega)
  replace HI := Aside0.mk (HI.out.below (below_alloc HB9.out (.cells #[.slice A6 L.length (L.length + d6), .int .i64 0, .int .i64 0] 37)))
  clear hnew HB9 HC6
  generalize w18.alloc _ = w10 at HB HI HR ⊢
  generalize w18.heap.size = g2 at HNG HGE2 HR ⊢
  refine (HT.out g w10 HI.out).mono ?_
  rintro ev w11 ⟨rfl, hi, hb, hk⟩
  replace HR := Aside0.mk (HI.out.other HR.out hk HNG.out)
  replace HB := Aside0.mk (hb w HGE.out HB.out)
  replace HI := Aside0.mk hi
  clear hi hb hk HT
  go_upto_region 5 with fail
  have BX := Aside0.mk (blk_new w11 (.cells #[.int .i64 I.k, .string I.i, .int .i64 I.q, .int .i64 I.s, .bool I.d, .complex .f64 (fl I.x) (fl I.y), .string I.t, .bool I.h] 40))
  have HLX := Aside0.mk (show w11.heap.size ≠ g2 by have := HR.out.lt; omega)
  replace HI := Aside0.mk (HI.out.below (below_alloc (Below.refl _ _) (.cells #[.int .i64 I.k, .string I.i, .int .i64 I.q, .int .i64 I.s, .bool I.d, .complex .f64 (fl I.x) (fl I.y), .string I.t, .bool I.h] 40)))
  replace HR := Aside0.mk (HR.out.below (below_alloc (Below.refl _ _) (.cells #[.int .i64 I.k, .string I.i, .int .i64 I.q, .int .i64 I.s, .bool I.d, .complex .f64 (fl I.x) (fl I.y), .string I.t, .bool I.h] 40)))
  replace HB := Aside0.mk (below_alloc HB.out (.cells #[.int .i64 I.k, .string I.i, .int .i64 I.q, .int .i64 I.s, .bool I.d, .complex .f64 (fl I.x) (fl I.y), .string I.t, .bool I.h] 40))
  have HLG := Aside0.mk (show w11.heap.size ≠ g by
    intro hx
    obtain ⟨A, c, h1, -⟩ := HI.out
    rw [← hx, BX.out] at h1
    cases h1)
  generalize w11.alloc _ = w12 at BX HI HR HB ⊢
  generalize w11.heap.size = gx at BX HLX HLG ⊢
  go_wp2_with fail
  refine (HU.out g2 w12 HR.out).mono ?_
  rintro ev w13 ⟨rfl, hi, hb, hk⟩
  replace HI := Aside0.mk (HR.out.other HI.out hk (Ne.symm HNG.out))
  replace BX := Aside0.mk (hk.blk BX.out HLX.out (by simp))
  replace HB := Aside0.mk (hb w HGE2.out HB.out)
  replace HR := Aside0.mk hi
  clear hi hb hk HU
  go_upto_region 6 with fail
  have BY := Aside0.mk (blk_new w13 (.cells #[.int .i64 J.k, .string J.i, .int .i64 J.q, .int .i64 J.s, .bool J.d, .int .i64 J.x, .int .i64 J.y, .string J.t, .bool J.h] 46))
  replace BX := Aside0.mk (blk_below BX.out (below_alloc (Below.refl _ _) (.cells #[.int .i64 J.k, .string J.i, .int .i64 J.q, .int .i64 J.s, .bool J.d, .int .i64 J.x, .int .i64 J.y, .string J.t, .bool J.h] 46)))
  replace HI := Aside0.mk (HI.out.below (below_alloc (Below.refl _ _) (.cells #[.int .i64 J.k, .string J.i, .int .i64 J.q, .int .i64 J.s, .bool J.d, .int .i64 J.x, .int .i64 J.y, .string J.t, .bool J.h] 46)))
  replace HR := Aside0.mk (HR.out.below (below_alloc (Below.refl _ _) (.cells #[.int .i64 J.k, .string J.i, .int .i64 J.q, .int .i64 J.s, .bool J.d, .int .i64 J.x, .int .i64 J.y, .string J.t, .bool J.h] 46)))
  replace HB := Aside0.mk (below_alloc HB.out (.cells #[.int .i64 J.k, .string J.i, .int .i64 J.q, .int .i64 J.s, .bool J.d, .int .i64 J.x, .int .i64 J.y, .string J.t, .bool J.h] 46))
  have HLY := Aside0.mk (show w13.heap.size ≠ g by
    intro hx
    obtain ⟨A, c, h1, -⟩ := HI.out
    rw [← hx, BY.out] at h1
    cases h1)
  generalize w13.alloc _ = w14 at BX BY HI HR HB ⊢
  generalize w13.heap.size = gy at BY HLY ⊢
  have hne := HNE.out
  have hee : (e != e) = false := by simp
  clear HNE
  cases ok with
  | false =>
    have hr := (if_pos rfl).symm.trans H.out
    obtain rfl := Option.some.inj hr
    clear H hr
    refine start_ (n := 22) (S := fun w' => w'.cell? ⟨gx, 0, none⟩ = some (.int .i64 I.k) ∧ w'.cell? ⟨gx, 1, none⟩ = some (.string I.i) ∧ w'.cell? ⟨gx, 2, none⟩ = some (.int .i64 I.q) ∧ w'.cell? ⟨gx, 3, none⟩ = some (.int .i64 I.s) ∧ w'.cell? ⟨gx, 4, none⟩ = some (.bool I.d) ∧ w'.cell? ⟨gx, 5, none⟩ = some (.complex .f64 (fl I.x) (fl I.y)) ∧ w'.cell? ⟨gx, 6, none⟩ = some (.string I.t) ∧ w'.cell? ⟨gx, 7, none⟩ = some (.bool I.h) ∧ w'.cell? ⟨gy, 0, none⟩ = some (.int .i64 J.k) ∧ w'.cell? ⟨gy, 1, none⟩ = some (.string J.i) ∧ w'.cell? ⟨gy, 2, none⟩ = some (.int .i64 J.q) ∧ w'.cell? ⟨gy, 3, none⟩ = some (.int .i64 J.s) ∧ w'.cell? ⟨gy, 4, none⟩ = some (.bool J.d) ∧ w'.cell? ⟨gy, 5, none⟩ = some (.int .i64 J.x) ∧ w'.cell? ⟨gy, 6, none⟩ = some (.int .i64 J.y) ∧ w'.cell? ⟨gy, 7, none⟩ = some (.string J.t) ∧ w'.cell? ⟨gy, 8, none⟩ = some (.bool J.h) ∧ w'.cell? ⟨g2, 2, none⟩ = some (.int .i64 e)) (ds := []) #[false, false, false, false, false, false, false, false, false, false, false, false, false, false, false, false, false, false, false, false, false, false] (by kernel_rfl) rfl rfl (and8 (it_cells (blk_drew BX.out)) (and9 (ta_cells (blk_drew BY.out)) (rf_cell HR.out))) (fun hHeld => ?_)
    replace BX := Aside0.mk (blk_drew BX.out)
    replace BY := Aside0.mk (blk_drew BY.out)
    replace HI := Aside0.mk (HI.out.below (below_drew1 (Below.refl _ _)))
    replace HR := Aside0.mk (HR.out.below (below_drew1 (Below.refl _ _)))
    replace HB := Aside0.mk (below_drew1 HB.out)
    generalize w14.drew = w15 at BX BY HI HR HB hHeld ⊢
    refine one_ (i := 0) (N := some 32) #[true, false, false, false, false, false, false, false, false, false, false, false, false, false, false, false, false, false, false, false, false, false] rfl rfl (by kernel_rfl) (by decide) (fun K hK => ?_)
    refine goes_ Try.func11 (by kernel_rfl) rfl #[] (by rfl) rfl rfl (by (try simp only [List.map_toArray, List.map_cons, List.map_nil]); first | done | rfl) ?_
    refine (cenotaphlaw07_told.calls true w15 rfl).mono ?_
    rintro ev w16 ⟨rfl, hb⟩
    refine ⟨_, rfl, ?_⟩
    replace BX := Aside0.mk (blk_below BX.out hb)
    replace BY := Aside0.mk (blk_below BY.out hb)
    replace HI := Aside0.mk (HI.out.below hb)
    replace HR := Aside0.mk (HR.out.below hb)
    replace HB := Aside0.mk (below_step HB.out hb)
    clear hb
    refine hK.out _ _ (and8 (it_cells BX.out) (and9 (ta_cells BY.out) (rf_cell HR.out))) (fun hHeld => ?_)
    clear hK K
    refine norm_ (a' := ?_) ?_ ?_
    rotate_left
    · show Act.put _ (some 32) _ = _
      simp only [Act.put, List.setIfInBounds_toArray, List.set_cons_zero, List.set_cons_succ, i64_w, i32_w]
      rfl
    refine pure_ (i := 1) (N := some 33) (v := ?_) (a' := ?_) #[true, true, false, false, false, false, false, false, false, false, false, false, false, false, false, false, false, false, false, false, false, false] rfl rfl (by kernel_rfl) (fun _ _ _ h => h) (Or.inl ⟨by rfl, ?_⟩) ?_ ?_
    rotate_left
    · intro w'
      go_simp
      with_reducible rfl
    rotate_left
    · simp only [Act.put, List.setIfInBounds_toArray, List.set_cons_zero, List.set_cons_succ, i64_w, i32_w]
      rfl
    refine pure_ (i := 2) (N := some 34) (v := ?_) (a' := ?_) #[true, true, true, false, false, false, false, false, false, false, false, false, false, false, false, false, false, false, false, false, false, false] rfl rfl (by kernel_rfl) (fun _ _ _ h => h) (Or.inl ⟨by rfl, ?_⟩) ?_ ?_
    rotate_left
    · intro w'
      go_simp
      with_reducible rfl
    rotate_left
    · simp only [Act.put, List.setIfInBounds_toArray, List.set_cons_zero, List.set_cons_succ, i64_w, i32_w]
      rfl
    refine pure_ (i := 3) (N := some 35) (v := ?_) (a' := ?_) #[true, true, true, true, false, false, false, false, false, false, false, false, false, false, false, false, false, false, false, false, false, false] rfl rfl (by kernel_rfl) (fun _ _ _ h => h) (Or.inl ⟨by rfl, ?_⟩) ?_ ?_
    rotate_left
    · intro w'
      go_simp
      with_reducible rfl
    rotate_left
    · simp only [Act.put, List.setIfInBounds_toArray, List.set_cons_zero, List.set_cons_succ, i64_w, i32_w]
      rfl
    refine pure_ (i := 4) (N := some 36) (v := ?_) (a' := ?_) #[true, true, true, true, true, false, false, false, false, false, false, false, false, false, false, false, false, false, false, false, false, false] rfl rfl (by kernel_rfl) (fun _ _ _ h => h) (Or.inl ⟨by rfl, ?_⟩) ?_ ?_
    rotate_left
    · intro w'
      go_simp
      with_reducible rfl
    rotate_left
    · simp only [Act.put, List.setIfInBounds_toArray, List.set_cons_zero, List.set_cons_succ, i64_w, i32_w]
      rfl
    refine pure_ (i := 5) (N := some 37) (v := ?_) (a' := ?_) #[true, true, true, true, true, true, false, false, false, false, false, false, false, false, false, false, false, false, false, false, false, false] rfl rfl (by kernel_rfl) (fun _ _ _ h => h) (Or.inl ⟨by rfl, ?_⟩) ?_ ?_
    rotate_left
    · intro w'
      go_simp
      with_reducible rfl
    rotate_left
    · simp only [Act.put, List.setIfInBounds_toArray, List.set_cons_zero, List.set_cons_succ, i64_w, i32_w]
      rfl
    refine pure_ (i := 6) (N := some 38) (v := ?_) (a' := ?_) #[true, true, true, true, true, true, true, false, false, false, false, false, false, false, false, false, false, false, false, false, false, false] rfl rfl (by kernel_rfl) (fun _ _ _ h => h) (Or.inl ⟨by rfl, ?_⟩) ?_ ?_
    rotate_left
    · intro w'
      go_simp
      with_reducible rfl
    rotate_left
    · simp only [Act.put, List.setIfInBounds_toArray, List.set_cons_zero, List.set_cons_succ, i64_w, i32_w]
      rfl
    refine pure_ (i := 7) (N := some 39) (v := ?_) (a' := ?_) #[true, true, true, true, true, true, true, true, false, false, false, false, false, false, false, false, false, false, false, false, false, false] rfl rfl (by kernel_rfl) (fun _ _ _ h => h) (Or.inl ⟨by rfl, ?_⟩) ?_ ?_
    rotate_left
    · intro w'
      go_simp
      with_reducible rfl
    rotate_left
    · simp only [Act.put, List.setIfInBounds_toArray, List.set_cons_zero, List.set_cons_succ, i64_w, i32_w]
      rfl
    refine take_ (i := 8) (N := some 40) (v := ?_) (a' := ?_) #[true, true, true, true, true, true, true, true, true, false, false, false, false, false, false, false, false, false, false, false, false, false] rfl rfl (by kernel_rfl) (fun _ _ _ h => h) (Or.inl ⟨by rfl, ?_⟩) hHeld ?_ ?_
    rotate_left
    · rintro w' ⟨s0, s1, s2, s3, s4, s5, s6, s7, s8, s9, s10, s11, s12, s13, s14, s15, s16, s17⟩
      go_simp
      with_reducible rfl
    rotate_left
    · simp only [Act.put, List.setIfInBounds_toArray, List.set_cons_zero, List.set_cons_succ, i64_w, i32_w]
      rfl
    refine take_ (i := 10) (N := some 42) (v := ?_) (a' := ?_) #[true, true, true, true, true, true, true, true, true, false, true, false, false, false, false, false, false, false, false, false, false, false] rfl rfl (by kernel_rfl) (fun _ _ _ h => h) (Or.inl ⟨by rfl, ?_⟩) hHeld ?_ ?_
    rotate_left
    · rintro w' ⟨s0, s1, s2, s3, s4, s5, s6, s7, s8, s9, s10, s11, s12, s13, s14, s15, s16, s17⟩
      go_simp
      with_reducible rfl
    rotate_left
    · simp only [Act.put, List.setIfInBounds_toArray, List.set_cons_zero, List.set_cons_succ, i64_w, i32_w]
      rfl
    refine one_ (i := 9) (N := some 41) #[true, true, true, true, true, true, true, true, true, true, true, false, false, false, false, false, false, false, false, false, false, false] rfl rfl (by kernel_rfl) (by decide) (fun K hK => ?_)
    refine goes_ Try.func16 (by kernel_rfl) rfl #[.agg #[.int .i64 I.k, .string I.i, .int .i64 I.q, .int .i64 I.s, .bool I.d, .complex .f64 (fl I.x) (fl I.y), .string I.t, .bool I.h]] (by rfl) rfl rfl (by (try simp only [List.map_toArray, List.map_cons, List.map_nil]); first | done | rfl) ?_
    refine (HF.out w16).mono ?_
    rintro ev w17 ⟨rfl, hb⟩
    refine ⟨_, rfl, ?_⟩
    replace BX := Aside0.mk (blk_below BX.out hb)
    replace BY := Aside0.mk (blk_below BY.out hb)
    replace HI := Aside0.mk (HI.out.below hb)
    replace HR := Aside0.mk (HR.out.below hb)
    replace HB := Aside0.mk (below_step HB.out hb)
    clear hb
    refine hK.out _ _ (and8 (it_cells BX.out) (and9 (ta_cells BY.out) (rf_cell HR.out))) (fun hHeld => ?_)
    clear hK K
    refine norm_ (a' := ?_) ?_ ?_
    rotate_left
    · show Act.put _ (some 41) _ = _
      simp only [Act.put, List.setIfInBounds_toArray, List.set_cons_zero, List.set_cons_succ, i64_w, i32_w]
      rfl
    refine pure_ (i := 11) (N := some 43) (v := ?_) (a' := ?_) #[true, true, true, true, true, true, true, true, true, true, true, true, false, false, false, false, false, false, false, false, false, false] rfl rfl (by kernel_rfl) (fun _ _ _ h => h) (Or.inl ⟨by rfl, ?_⟩) ?_ ?_
    rotate_left
    · intro w'
      go_simp
      with_reducible rfl
    rotate_left
    · simp only [Act.put, List.setIfInBounds_toArray, List.set_cons_zero, List.set_cons_succ, i64_w, i32_w]
      rfl
    refine pure_ (i := 12) (N := some 44) (v := ?_) (a' := ?_) #[true, true, true, true, true, true, true, true, true, true, true, true, true, false, false, false, false, false, false, false, false, false] rfl rfl (by kernel_rfl) (fun _ _ _ h => h) (Or.inl ⟨by rfl, ?_⟩) ?_ ?_
    rotate_left
    · intro w'
      go_simp
      with_reducible rfl
    rotate_left
    · simp only [Act.put, List.setIfInBounds_toArray, List.set_cons_zero, List.set_cons_succ, i64_w, i32_w]
      rfl
    refine pure_ (i := 13) (N := some 45) (v := ?_) (a' := ?_) #[true, true, true, true, true, true, true, true, true, true, true, true, true, true, false, false, false, false, false, false, false, false] rfl rfl (by kernel_rfl) (fun _ _ _ h => h) (Or.inl ⟨by rfl, ?_⟩) ?_ ?_
    rotate_left
    · intro w'
      go_simp
      with_reducible rfl
    rotate_left
    · simp only [Act.put, List.setIfInBounds_toArray, List.set_cons_zero, List.set_cons_succ, i64_w, i32_w]
      rfl
    refine pure_ (i := 14) (N := some 46) (v := ?_) (a' := ?_) #[true, true, true, true, true, true, true, true, true, true, true, true, true, true, true, false, false, false, false, false, false, false] rfl rfl (by kernel_rfl) (fun _ _ _ h => h) (Or.inl ⟨by rfl, ?_⟩) ?_ ?_
    rotate_left
    · intro w'
      go_simp
      with_reducible rfl
    rotate_left
    · simp only [Act.put, List.setIfInBounds_toArray, List.set_cons_zero, List.set_cons_succ, i64_w, i32_w]
      rfl
    refine pure_ (i := 16) (N := some 48) (v := ?_) (a' := ?_) #[true, true, true, true, true, true, true, true, true, true, true, true, true, true, true, false, true, false, false, false, false, false] rfl rfl (by kernel_rfl) (fun _ _ _ h => h) (Or.inl ⟨by rfl, ?_⟩) ?_ ?_
    rotate_left
    · intro w'
      go_simp
      with_reducible rfl
    rotate_left
    · simp only [Act.put, List.setIfInBounds_toArray, List.set_cons_zero, List.set_cons_succ, i64_w, i32_w]
      rfl
    refine pure_ (i := 17) (N := some 49) (v := ?_) (a' := ?_) #[true, true, true, true, true, true, true, true, true, true, true, true, true, true, true, false, true, true, false, false, false, false] rfl rfl (by kernel_rfl) (fun _ _ _ h => h) (Or.inl ⟨by rfl, ?_⟩) ?_ ?_
    rotate_left
    · intro w'
      go_simp
      with_reducible rfl
    rotate_left
    · simp only [Act.put, List.setIfInBounds_toArray, List.set_cons_zero, List.set_cons_succ, i64_w, i32_w]
      rfl
    refine pure_ (i := 18) (N := some 50) (v := ?_) (a' := ?_) #[true, true, true, true, true, true, true, true, true, true, true, true, true, true, true, false, true, true, true, false, false, false] rfl rfl (by kernel_rfl) (fun _ _ _ h => h) (Or.inl ⟨by rfl, ?_⟩) ?_ ?_
    rotate_left
    · intro w'
      go_simp
      with_reducible rfl
    rotate_left
    · simp only [Act.put, List.setIfInBounds_toArray, List.set_cons_zero, List.set_cons_succ, i64_w, i32_w]
      rfl
    refine take_ (i := 19) (N := some 51) (v := ?_) (a' := ?_) #[true, true, true, true, true, true, true, true, true, true, true, true, true, true, true, false, true, true, true, true, false, false] rfl rfl (by kernel_rfl) (fun _ _ _ h => h) (Or.inl ⟨by rfl, ?_⟩) hHeld ?_ ?_
    rotate_left
    · rintro w' ⟨s0, s1, s2, s3, s4, s5, s6, s7, s8, s9, s10, s11, s12, s13, s14, s15, s16, s17⟩
      go_simp
      with_reducible rfl
    rotate_left
    · simp only [Act.put, List.setIfInBounds_toArray, List.set_cons_zero, List.set_cons_succ, i64_w, i32_w]
      rfl
    refine one_ (i := 15) (N := some 47) #[true, true, true, true, true, true, true, true, true, true, true, true, true, true, true, true, true, true, true, true, false, false] rfl rfl (by kernel_rfl) (by decide) (fun K hK => ?_)
    refine goes_ Try.func17 (by kernel_rfl) rfl #[.pointer (some ⟨g, 0, none⟩)] (by rfl) rfl rfl (by (try simp only [List.map_toArray, List.map_cons, List.map_nil]); first | done | rfl) ?_
    refine (rd_err g L a e w17 HI.out).mono ?_
    rintro ev w19 ⟨rfl, hi, hb, hk⟩
    refine ⟨_, rfl, ?_⟩
    replace HR := Aside0.mk (HI.out.other HR.out hk HNG.out)
    replace BX := Aside0.mk (hk.blk BX.out HLG.out (by simp))
    replace BY := Aside0.mk (hk.blk BY.out HLY.out (by simp))
    replace HB := Aside0.mk (hb w HGE.out HB.out)
    replace HI := Aside0.mk hi
    clear hi hb hk
    refine hK.out _ _ (and8 (it_cells BX.out) (and9 (ta_cells BY.out) (rf_cell HR.out))) (fun hHeld => ?_)
    clear hK K
    refine norm_ (a' := ?_) ?_ ?_
    rotate_left
    · show Act.put _ (some 47) _ = _
      simp only [Act.put, List.setIfInBounds_toArray, List.set_cons_zero, List.set_cons_succ, i64_w, i32_w]
      rfl
    refine pure_ (i := 20) (N := some 52) (v := ?_) (a' := ?_) #[true, true, true, true, true, true, true, true, true, true, true, true, true, true, true, true, true, true, true, true, true, false] rfl rfl (by kernel_rfl) (fun _ _ _ h => h) (Or.inl ⟨by rfl, ?_⟩) ?_ ?_
    rotate_left
    · intro w'
      go_simp
      with_reducible rfl
    rotate_left
    · simp only [Act.put, List.setIfInBounds_toArray, List.set_cons_zero, List.set_cons_succ, i64_w, i32_w]
      rfl
    refine pure_ (i := 21) (N := some 53) (v := ?_) (a' := ?_) #[true, true, true, true, true, true, true, true, true, true, true, true, true, true, true, true, true, true, true, true, true, true] rfl rfl (by kernel_rfl) (fun _ _ _ h => h) (Or.inl ⟨by rfl, ?_⟩) ?_ ?_
    rotate_left
    · intro w'
      go_simp
      with_reducible rfl
    rotate_left
    · simp only [Act.put, List.setIfInBounds_toArray, List.set_cons_zero, List.set_cons_succ, i64_w, i32_w]
      rfl
    refine done_ (by kernel_rfl) ?_
    clear hne hee hHeld
    go_wp2_with fail
    go_ret
    exact ⟨rfl, HB.out⟩
  | true =>
    have hr := (if_neg (by decide)).symm.trans H.out
    obtain ⟨c, hc, hr⟩ := Option.bind_eq_some_iff.mp hr
    try dsimp only at hc
    by_cases hcc : c.length ≤ L.length ∧ (strOfNums c).toList = (strOfNums (L.take c.length)).toList
    rotate_left
    · rw [if_neg hcc] at hr; cases hr
    rw [if_pos hcc] at hr
    obtain rfl := Option.some.inj hr
    have HCP := Aside0.mk (fun (W : World) => HP.out c W hc)
    have HCC := Aside0.mk hcc
    clear H hr hc hcc
    refine start_ (n := 22) (S := fun w' => w'.cell? ⟨gx, 0, none⟩ = some (.int .i64 I.k) ∧ w'.cell? ⟨gx, 1, none⟩ = some (.string I.i) ∧ w'.cell? ⟨gx, 2, none⟩ = some (.int .i64 I.q) ∧ w'.cell? ⟨gx, 3, none⟩ = some (.int .i64 I.s) ∧ w'.cell? ⟨gx, 4, none⟩ = some (.bool I.d) ∧ w'.cell? ⟨gx, 5, none⟩ = some (.complex .f64 (fl I.x) (fl I.y)) ∧ w'.cell? ⟨gx, 6, none⟩ = some (.string I.t) ∧ w'.cell? ⟨gx, 7, none⟩ = some (.bool I.h) ∧ w'.cell? ⟨gy, 0, none⟩ = some (.int .i64 J.k) ∧ w'.cell? ⟨gy, 1, none⟩ = some (.string J.i) ∧ w'.cell? ⟨gy, 2, none⟩ = some (.int .i64 J.q) ∧ w'.cell? ⟨gy, 3, none⟩ = some (.int .i64 J.s) ∧ w'.cell? ⟨gy, 4, none⟩ = some (.bool J.d) ∧ w'.cell? ⟨gy, 5, none⟩ = some (.int .i64 J.x) ∧ w'.cell? ⟨gy, 6, none⟩ = some (.int .i64 J.y) ∧ w'.cell? ⟨gy, 7, none⟩ = some (.string J.t) ∧ w'.cell? ⟨gy, 8, none⟩ = some (.bool J.h) ∧ w'.cell? ⟨g2, 2, none⟩ = some (.int .i64 e)) (ds := []) #[false, false, false, false, false, false, false, false, false, false, false, false, false, false, false, false, false, false, false, false, false, false] (by kernel_rfl) rfl rfl (and8 (it_cells (blk_drew BX.out)) (and9 (ta_cells (blk_drew BY.out)) (rf_cell HR.out))) (fun hHeld => ?_)
    replace BX := Aside0.mk (blk_drew BX.out)
    replace BY := Aside0.mk (blk_drew BY.out)
    replace HI := Aside0.mk (HI.out.below (below_drew1 (Below.refl _ _)))
    replace HR := Aside0.mk (HR.out.below (below_drew1 (Below.refl _ _)))
    replace HB := Aside0.mk (below_drew1 HB.out)
    generalize w14.drew = w15 at BX BY HI HR HB hHeld ⊢
    refine one_ (i := 0) (N := some 32) #[true, false, false, false, false, false, false, false, false, false, false, false, false, false, false, false, false, false, false, false, false, false] rfl rfl (by kernel_rfl) (by decide) (fun K hK => ?_)
    refine goes_ Try.func11 (by kernel_rfl) rfl #[] (by rfl) rfl rfl (by (try simp only [List.map_toArray, List.map_cons, List.map_nil]); first | done | rfl) ?_
    refine (cenotaphlaw07_told.calls true w15 rfl).mono ?_
    rintro ev w16 ⟨rfl, hb⟩
    refine ⟨_, rfl, ?_⟩
    replace BX := Aside0.mk (blk_below BX.out hb)
    replace BY := Aside0.mk (blk_below BY.out hb)
    replace HI := Aside0.mk (HI.out.below hb)
    replace HR := Aside0.mk (HR.out.below hb)
    replace HB := Aside0.mk (below_step HB.out hb)
    clear hb
    refine hK.out _ _ (and8 (it_cells BX.out) (and9 (ta_cells BY.out) (rf_cell HR.out))) (fun hHeld => ?_)
    clear hK K
    refine norm_ (a' := ?_) ?_ ?_
    rotate_left
    · show Act.put _ (some 32) _ = _
      simp only [Act.put, List.setIfInBounds_toArray, List.set_cons_zero, List.set_cons_succ, i64_w, i32_w]
      rfl
    refine pure_ (i := 1) (N := some 33) (v := ?_) (a' := ?_) #[true, true, false, false, false, false, false, false, false, false, false, false, false, false, false, false, false, false, false, false, false, false] rfl rfl (by kernel_rfl) (fun _ _ _ h => h) (Or.inl ⟨by rfl, ?_⟩) ?_ ?_
    rotate_left
    · intro w'
      go_simp
      with_reducible rfl
    rotate_left
    · simp only [Act.put, List.setIfInBounds_toArray, List.set_cons_zero, List.set_cons_succ, i64_w, i32_w]
      rfl
    refine pure_ (i := 2) (N := some 34) (v := ?_) (a' := ?_) #[true, true, true, false, false, false, false, false, false, false, false, false, false, false, false, false, false, false, false, false, false, false] rfl rfl (by kernel_rfl) (fun _ _ _ h => h) (Or.inl ⟨by rfl, ?_⟩) ?_ ?_
    rotate_left
    · intro w'
      go_simp
      with_reducible rfl
    rotate_left
    · simp only [Act.put, List.setIfInBounds_toArray, List.set_cons_zero, List.set_cons_succ, i64_w, i32_w]
      rfl
    refine pure_ (i := 3) (N := some 35) (v := ?_) (a' := ?_) #[true, true, true, true, false, false, false, false, false, false, false, false, false, false, false, false, false, false, false, false, false, false] rfl rfl (by kernel_rfl) (fun _ _ _ h => h) (Or.inl ⟨by rfl, ?_⟩) ?_ ?_
    rotate_left
    · intro w'
      go_simp
      with_reducible rfl
    rotate_left
    · simp only [Act.put, List.setIfInBounds_toArray, List.set_cons_zero, List.set_cons_succ, i64_w, i32_w]
      rfl
    refine pure_ (i := 4) (N := some 36) (v := ?_) (a' := ?_) #[true, true, true, true, true, false, false, false, false, false, false, false, false, false, false, false, false, false, false, false, false, false] rfl rfl (by kernel_rfl) (fun _ _ _ h => h) (Or.inl ⟨by rfl, ?_⟩) ?_ ?_
    rotate_left
    · intro w'
      go_simp
      with_reducible rfl
    rotate_left
    · simp only [Act.put, List.setIfInBounds_toArray, List.set_cons_zero, List.set_cons_succ, i64_w, i32_w]
      rfl
    refine pure_ (i := 5) (N := some 37) (v := ?_) (a' := ?_) #[true, true, true, true, true, true, false, false, false, false, false, false, false, false, false, false, false, false, false, false, false, false] rfl rfl (by kernel_rfl) (fun _ _ _ h => h) (Or.inl ⟨by rfl, ?_⟩) ?_ ?_
    rotate_left
    · intro w'
      go_simp
      with_reducible rfl
    rotate_left
    · simp only [Act.put, List.setIfInBounds_toArray, List.set_cons_zero, List.set_cons_succ, i64_w, i32_w]
      rfl
    refine pure_ (i := 6) (N := some 38) (v := ?_) (a' := ?_) #[true, true, true, true, true, true, true, false, false, false, false, false, false, false, false, false, false, false, false, false, false, false] rfl rfl (by kernel_rfl) (fun _ _ _ h => h) (Or.inl ⟨by rfl, ?_⟩) ?_ ?_
    rotate_left
    · intro w'
      go_simp
      with_reducible rfl
    rotate_left
    · simp only [Act.put, List.setIfInBounds_toArray, List.set_cons_zero, List.set_cons_succ, i64_w, i32_w]
      rfl
    refine pure_ (i := 7) (N := some 39) (v := ?_) (a' := ?_) #[true, true, true, true, true, true, true, true, false, false, false, false, false, false, false, false, false, false, false, false, false, false] rfl rfl (by kernel_rfl) (fun _ _ _ h => h) (Or.inl ⟨by rfl, ?_⟩) ?_ ?_
    rotate_left
    · intro w'
      go_simp
      with_reducible rfl
    rotate_left
    · simp only [Act.put, List.setIfInBounds_toArray, List.set_cons_zero, List.set_cons_succ, i64_w, i32_w]
      rfl
    refine take_ (i := 8) (N := some 40) (v := ?_) (a' := ?_) #[true, true, true, true, true, true, true, true, true, false, false, false, false, false, false, false, false, false, false, false, false, false] rfl rfl (by kernel_rfl) (fun _ _ _ h => h) (Or.inl ⟨by rfl, ?_⟩) hHeld ?_ ?_
    rotate_left
    · rintro w' ⟨s0, s1, s2, s3, s4, s5, s6, s7, s8, s9, s10, s11, s12, s13, s14, s15, s16, s17⟩
      go_simp
      with_reducible rfl
    rotate_left
    · simp only [Act.put, List.setIfInBounds_toArray, List.set_cons_zero, List.set_cons_succ, i64_w, i32_w]
      rfl
    refine take_ (i := 10) (N := some 42) (v := ?_) (a' := ?_) #[true, true, true, true, true, true, true, true, true, false, true, false, false, false, false, false, false, false, false, false, false, false] rfl rfl (by kernel_rfl) (fun _ _ _ h => h) (Or.inl ⟨by rfl, ?_⟩) hHeld ?_ ?_
    rotate_left
    · rintro w' ⟨s0, s1, s2, s3, s4, s5, s6, s7, s8, s9, s10, s11, s12, s13, s14, s15, s16, s17⟩
      go_simp
      with_reducible rfl
    rotate_left
    · simp only [Act.put, List.setIfInBounds_toArray, List.set_cons_zero, List.set_cons_succ, i64_w, i32_w]
      rfl
    refine one_ (i := 9) (N := some 41) #[true, true, true, true, true, true, true, true, true, true, true, false, false, false, false, false, false, false, false, false, false, false] rfl rfl (by kernel_rfl) (by decide) (fun K hK => ?_)
    refine goes_ Try.func16 (by kernel_rfl) rfl #[.agg #[.int .i64 I.k, .string I.i, .int .i64 I.q, .int .i64 I.s, .bool I.d, .complex .f64 (fl I.x) (fl I.y), .string I.t, .bool I.h]] (by rfl) rfl rfl (by (try simp only [List.map_toArray, List.map_cons, List.map_nil]); first | done | rfl) ?_
    refine (HF.out w16).mono ?_
    rintro ev w17 ⟨rfl, hb⟩
    refine ⟨_, rfl, ?_⟩
    replace BX := Aside0.mk (blk_below BX.out hb)
    replace BY := Aside0.mk (blk_below BY.out hb)
    replace HI := Aside0.mk (HI.out.below hb)
    replace HR := Aside0.mk (HR.out.below hb)
    replace HB := Aside0.mk (below_step HB.out hb)
    clear hb
    refine hK.out _ _ (and8 (it_cells BX.out) (and9 (ta_cells BY.out) (rf_cell HR.out))) (fun hHeld => ?_)
    clear hK K
    refine norm_ (a' := ?_) ?_ ?_
    rotate_left
    · show Act.put _ (some 41) _ = _
      simp only [Act.put, List.setIfInBounds_toArray, List.set_cons_zero, List.set_cons_succ, i64_w, i32_w]
      rfl
    refine pure_ (i := 11) (N := some 43) (v := ?_) (a' := ?_) #[true, true, true, true, true, true, true, true, true, true, true, true, false, false, false, false, false, false, false, false, false, false] rfl rfl (by kernel_rfl) (fun _ _ _ h => h) (Or.inl ⟨by rfl, ?_⟩) ?_ ?_
    rotate_left
    · intro w'
      go_simp
      with_reducible rfl
    rotate_left
    · simp only [Act.put, List.setIfInBounds_toArray, List.set_cons_zero, List.set_cons_succ, i64_w, i32_w]
      rfl
    refine pure_ (i := 12) (N := some 44) (v := ?_) (a' := ?_) #[true, true, true, true, true, true, true, true, true, true, true, true, true, false, false, false, false, false, false, false, false, false] rfl rfl (by kernel_rfl) (fun _ _ _ h => h) (Or.inl ⟨by rfl, ?_⟩) ?_ ?_
    rotate_left
    · intro w'
      go_simp
      with_reducible rfl
    rotate_left
    · simp only [Act.put, List.setIfInBounds_toArray, List.set_cons_zero, List.set_cons_succ, i64_w, i32_w]
      rfl
    refine pure_ (i := 13) (N := some 45) (v := ?_) (a' := ?_) #[true, true, true, true, true, true, true, true, true, true, true, true, true, true, false, false, false, false, false, false, false, false] rfl rfl (by kernel_rfl) (fun _ _ _ h => h) (Or.inl ⟨by rfl, ?_⟩) ?_ ?_
    rotate_left
    · intro w'
      go_simp
      with_reducible rfl
    rotate_left
    · simp only [Act.put, List.setIfInBounds_toArray, List.set_cons_zero, List.set_cons_succ, i64_w, i32_w]
      rfl
    refine pure_ (i := 14) (N := some 46) (v := ?_) (a' := ?_) #[true, true, true, true, true, true, true, true, true, true, true, true, true, true, true, false, false, false, false, false, false, false] rfl rfl (by kernel_rfl) (fun _ _ _ h => h) (Or.inl ⟨by rfl, ?_⟩) ?_ ?_
    rotate_left
    · intro w'
      go_simp
      with_reducible rfl
    rotate_left
    · simp only [Act.put, List.setIfInBounds_toArray, List.set_cons_zero, List.set_cons_succ, i64_w, i32_w]
      rfl
    refine pure_ (i := 16) (N := some 48) (v := ?_) (a' := ?_) #[true, true, true, true, true, true, true, true, true, true, true, true, true, true, true, false, true, false, false, false, false, false] rfl rfl (by kernel_rfl) (fun _ _ _ h => h) (Or.inl ⟨by rfl, ?_⟩) ?_ ?_
    rotate_left
    · intro w'
      go_simp
      with_reducible rfl
    rotate_left
    · simp only [Act.put, List.setIfInBounds_toArray, List.set_cons_zero, List.set_cons_succ, i64_w, i32_w]
      rfl
    refine pure_ (i := 17) (N := some 49) (v := ?_) (a' := ?_) #[true, true, true, true, true, true, true, true, true, true, true, true, true, true, true, false, true, true, false, false, false, false] rfl rfl (by kernel_rfl) (fun _ _ _ h => h) (Or.inl ⟨by rfl, ?_⟩) ?_ ?_
    rotate_left
    · intro w'
      go_simp
      with_reducible rfl
    rotate_left
    · simp only [Act.put, List.setIfInBounds_toArray, List.set_cons_zero, List.set_cons_succ, i64_w, i32_w]
      rfl
    refine pure_ (i := 18) (N := some 50) (v := ?_) (a' := ?_) #[true, true, true, true, true, true, true, true, true, true, true, true, true, true, true, false, true, true, true, false, false, false] rfl rfl (by kernel_rfl) (fun _ _ _ h => h) (Or.inl ⟨by rfl, ?_⟩) ?_ ?_
    rotate_left
    · intro w'
      go_simp
      with_reducible rfl
    rotate_left
    · simp only [Act.put, List.setIfInBounds_toArray, List.set_cons_zero, List.set_cons_succ, i64_w, i32_w]
      rfl
    refine take_ (i := 19) (N := some 51) (v := ?_) (a' := ?_) #[true, true, true, true, true, true, true, true, true, true, true, true, true, true, true, false, true, true, true, true, false, false] rfl rfl (by kernel_rfl) (fun _ _ _ h => h) (Or.inl ⟨by rfl, ?_⟩) hHeld ?_ ?_
    rotate_left
    · rintro w' ⟨s0, s1, s2, s3, s4, s5, s6, s7, s8, s9, s10, s11, s12, s13, s14, s15, s16, s17⟩
      go_simp
      with_reducible rfl
    rotate_left
    · simp only [Act.put, List.setIfInBounds_toArray, List.set_cons_zero, List.set_cons_succ, i64_w, i32_w]
      rfl
    refine one_ (i := 15) (N := some 47) #[true, true, true, true, true, true, true, true, true, true, true, true, true, true, true, true, true, true, true, true, false, false] rfl rfl (by kernel_rfl) (by decide) (fun K hK => ?_)
    refine goes_ Try.func17 (by kernel_rfl) rfl #[.pointer (some ⟨g, 0, none⟩)] (by rfl) rfl rfl (by (try simp only [List.map_toArray, List.map_cons, List.map_nil]); first | done | rfl) ?_
    refine (rd_err g L a e w17 HI.out).mono ?_
    rintro ev w19 ⟨rfl, hi, hb, hk⟩
    refine ⟨_, rfl, ?_⟩
    replace HR := Aside0.mk (HI.out.other HR.out hk HNG.out)
    replace BX := Aside0.mk (hk.blk BX.out HLG.out (by simp))
    replace BY := Aside0.mk (hk.blk BY.out HLY.out (by simp))
    replace HB := Aside0.mk (hb w HGE.out HB.out)
    replace HI := Aside0.mk hi
    clear hi hb hk
    refine hK.out _ _ (and8 (it_cells BX.out) (and9 (ta_cells BY.out) (rf_cell HR.out))) (fun hHeld => ?_)
    clear hK K
    refine norm_ (a' := ?_) ?_ ?_
    rotate_left
    · show Act.put _ (some 47) _ = _
      simp only [Act.put, List.setIfInBounds_toArray, List.set_cons_zero, List.set_cons_succ, i64_w, i32_w]
      rfl
    refine pure_ (i := 20) (N := some 52) (v := ?_) (a' := ?_) #[true, true, true, true, true, true, true, true, true, true, true, true, true, true, true, true, true, true, true, true, true, false] rfl rfl (by kernel_rfl) (fun _ _ _ h => h) (Or.inl ⟨by rfl, ?_⟩) ?_ ?_
    rotate_left
    · intro w'
      go_simp
      with_reducible rfl
    rotate_left
    · simp only [Act.put, List.setIfInBounds_toArray, List.set_cons_zero, List.set_cons_succ, i64_w, i32_w]
      rfl
    refine pure_ (i := 21) (N := some 53) (v := ?_) (a' := ?_) #[true, true, true, true, true, true, true, true, true, true, true, true, true, true, true, true, true, true, true, true, true, true] rfl rfl (by kernel_rfl) (fun _ _ _ h => h) (Or.inl ⟨by rfl, ?_⟩) ?_ ?_
    rotate_left
    · intro w'
      go_simp
      with_reducible rfl
    rotate_left
    · simp only [Act.put, List.setIfInBounds_toArray, List.set_cons_zero, List.set_cons_succ, i64_w, i32_w]
      rfl
    refine done_ (by kernel_rfl) ?_
    clear hne hee hHeld
    obtain ⟨c0_, c1_, c2_, c3_, c4_, c5_, c6_, c7_⟩ := it_cells BX.out
    go_wp2_with fail
    refine (HCP.out _).mono ?_
    rintro ev w20 ⟨A1, c1, rfl, hl1, hC1, hb⟩
    replace HB := Aside0.mk (below_step HB.out hb)
    have HC1 := Aside0.mk hC1
    clear hb hC1 HCP c0_ c1_ c2_ c3_ c4_ c5_ c6_ c7_
    obtain ⟨hle, hst⟩ := HCC.out
    have hle0 := eq_true (show (c.length : Int) ≤ (L.length : Int) by omega)
    have hle1 := decide_eq_true (show (c.length : Int) ≤ (L.length : Int) by omega)
    have hle2 := eq_true (show (c.length : Int) ≤ (c0 : Int) by omega)
    have hle3 := eq_true (show (0 : Int) ≤ (c.length : Int) by omega)
    have htl : (L.take c.length).length = c.length := by rw [List.length_take]; omega
    have hcc := takes_cut A0 L.length c0 (c.length : Int) (by omega) (by omega) hmc HC0.out
    rw [Int.toNat_natCast] at hcc
    have hsame := cenotaphref06_Same.calls A1 c1 c A0 c0 (L.take c.length) true w20 HC1.out hl1 (by rw [htl]; exact Kd.C_below hcc HB.out) (by omega) (by rw [cenotaphref06_Same.f, hst, beq_self_eq_true])
    rw [htl] at hsame
    have HSM := Aside0.mk hsame
    clear hsame hcc hst
    go_wp2_with fail
    refine HSM.out.mono ?_
    rintro ev w21 ⟨rfl, hb⟩
    replace HB := Aside0.mk (below_step HB.out hb.below)
    clear hb HSM
    go_wp2_with fail
    go_ret
    exact ⟨rfl, HB.out⟩

end Go.Proofs.Ytkmhanpamdgnjaa.P
