-- Written by a program of this session (wip/pp.py over the kit's printer, with our own texts put in).
import Derived.Test.YtkmhanpamdgnjaaP0
import Derived.Test.YtkmhanpamdgnjaaP2
namespace Go.Proofs.Ytkmhanpamdgnjaa.P
open Go.RowKit Go.Proofs.YtkmhanpamdgnjaaW.PrintWords Go.Proofs.YtkmhanpamdgnjaaW.PrintLast Go.Proofs.YtkmhanpamdgnjaaW.PrintMore
attribute [local go_sem] max2_int min2_int max_two min_two max_three min_three max_four min_four   -- for this text's walks alone
set_option linter.unusedVariables false
set_option linter.unusedSimpArgs false

-- NOT PRINTED: function 13 (wire_Read)

-- NOT PRINTED: function 34 (item_part)

-- NOT PRINTED: function 14 (item_Take)

/-- A state of type 37 at block g of W; what its slices lead to came in by w0. -/
def IsS37 (w0 W : World) (g : Nat) (f0 : List Int) (f1 : Int) (f2 : Int) : Prop := ∃ A0 c0, W.heap[g]? = some (.cells #[.slice A0 f0.length (f0.length + c0), .int .i64 f1, .int .i64 f2] 37 (0, 0)) ∧ w0.heap.size ≤ g ∧ Kd.C (Kd.int .u8) w0 A0 f0.length f0
theorem IsS37.grown {w0 W : World} {g : Nat} {f0 : List Int} {f1 : Int} {f2 : Int} {W1 : World} {row : Option Nat} (h : IsS37 w0 W g f0 f1 f2) (hw : W.grownBy W1 row) (hne : some g ≠ row) : IsS37 w0 W1 g f0 f1 f2 := by
 obtain ⟨A0, c0, hb, hg, hr0⟩ := h
 exact ⟨A0, c0, blk_grown hb hw hne, hg, hr0⟩
theorem IsS37.own_neN {w0 W : World} {g : Nat} {f0 : List Int} {f1 : Int} {f2 : Int} {α : Type} {d : Kd α} {e : Nat} {base : Nat} {ok : Nat → Prop} {v : Value} {xs : List α} (h : IsS37 w0 W g f0 f1 f2) (ho : Kd.N d e W base ok v xs) (ht : e ≠ 37) : some g ≠ v.ownBlock := by
 obtain ⟨A0, c0, hb, hg, hr0⟩ := h
 exact Kd.N_ne ho hb ht
theorem IsS37.fresh {w0 W : World} {g : Nat} {f0 : List Int} {f1 : Int} {f2 : Int} (h : IsS37 w0 W g f0 f1 f2) : ∀ k, W.heap.size ≤ k → k ≠ g := by
 obtain ⟨A0, c0, hb, hg, hr0⟩ := h
 exact Kd.freshB hb
theorem IsS37.kept {w0 W : World} {g : Nat} {f0 : List Int} {f1 : Int} {f2 : Int} {W1 : World} {S : Nat → Prop} (h : IsS37 w0 W g f0 f1 f2) (hk : Kept W W1 S) (hne : ¬ S g) : IsS37 w0 W1 g f0 f1 f2 := by
 obtain ⟨A0, c0, hb, hg, hr0⟩ := h
 exact ⟨A0, c0, blk_kept hb hk hne, hg, hr0⟩
theorem IsS37.below {w0 W : World} {g : Nat} {f0 : List Int} {f1 : Int} {f2 : Int} {W1 : World} (h : IsS37 w0 W g f0 f1 f2) (hw : Below W.heap.size W W1) : IsS37 w0 W1 g f0 f1 f2 := h.grown (grown_of_below hw none) (by simp)
theorem IsS37.alloc {w0 W : World} {g : Nat} {f0 : List Int} {f1 : Int} {f2 : Int} (h : IsS37 w0 W g f0 f1 f2) (o : Obj) : IsS37 w0 (W.alloc o) g f0 f1 f2 := h.below (below_alloc (Below.refl _ _) o)
theorem IsS37.drewN {w0 W : World} {g : Nat} {f0 : List Int} {f1 : Int} {f2 : Int} (h : IsS37 w0 W g f0 f1 f2) (m : Nat) : IsS37 w0 (W.drewN m) g f0 f1 f2 := h
theorem IsS37.drew {w0 W : World} {g : Nat} {f0 : List Int} {f1 : Int} {f2 : Int} (h : IsS37 w0 W g f0 f1 f2) : IsS37 w0 W.drew g f0 f1 f2 := h
theorem IsS37.at_ {w0 W : World} {g : Nat} {f0 : List Int} {f1 : Int} {f2 : Int} {w' : World} {m : Nat} (hq : W.drewN m = w') (h : IsS37 w0 W g f0 f1 f2) : IsS37 w0 w' g f0 f1 f2 := by subst hq; exact IsS37.drewN h m
theorem IsS37.apart {w0 W : World} {g : Nat} {f0 : List Int} {f1 : Int} {f2 : Int} {α : Type} {d : Kd α} {e : Nat} {base : Nat} {ok : Nat → Prop} {v : Value} {xs : List α} (h : IsS37 w0 W g f0 f1 f2) (ho : d.R e W base ok v xs) (ht : ∀ q, q ∈ e :: d.E → q ≠ 37) : d.R e W base (fun k => ok k ∧ k ≠ g) v xs := by
 obtain ⟨A0, c0, hb, hg, hr0⟩ := h
 exact Kd.R_types ho hb ht
theorem IsS37.own_ne {w0 W : World} {g : Nat} {f0 : List Int} {f1 : Int} {f2 : Int} {α : Type} {d : Kd α} {e : Nat} {base : Nat} {ok : Nat → Prop} {v : Value} {xs : List α} (h : IsS37 w0 W g f0 f1 f2) (ho : d.R e W base ok v xs) (ht : e ≠ 37) : some g ≠ v.ownBlock := by
 obtain ⟨A0, c0, hb, hg, hr0⟩ := h
 exact Kd.R_ne ho hb ht
theorem IsS37.apartQ {w0 W : World} {g : Nat} {f0 : List Int} {f1 : Int} {f2 : Int} {α : Type} {d : Kd α} {e : Nat} {base : Nat} {ok : Nat → Prop} {v : Value} {xs : List α} (h : IsS37 w0 W g f0 f1 f2) (ho : d.Q e W base ok v xs) (ht : ∀ q, q ∈ e :: d.E → q ≠ 37) : d.Q e W base (fun k => ok k ∧ k ≠ g) v xs := by
 obtain ⟨A0, c0, hb, hg, hr0⟩ := h
 exact Kd.Q_types ho hb ht
theorem IsS37.own_neQ {w0 W : World} {g : Nat} {f0 : List Int} {f1 : Int} {f2 : Int} {α : Type} {d : Kd α} {e : Nat} {base : Nat} {ok : Nat → Prop} {v : Value} {xs : List α} (h : IsS37 w0 W g f0 f1 f2) (ho : d.Q e W base ok v xs) (ht : e ≠ 37) : some g ≠ v.ownBlock := by
 obtain ⟨A0, c0, hb, hg, hr0⟩ := h
 exact Kd.Q_ne ho hb ht
theorem IsS37.apartS {w0 W : World} {g : Nat} {f0 : List Int} {f1 : Int} {f2 : Int} {α : Type} {d : Kd α} {e : Nat} {base : Nat} {ok : Nat → Prop} {v : Value} {xs : List α} (h : IsS37 w0 W g f0 f1 f2) (ho : d.S e W base ok v xs) (ht : ∀ q, q ∈ e :: d.E → q ≠ 37) : d.S e W base (fun k => ok k ∧ k ≠ g) v xs := by
 obtain ⟨A0, c0, hb, hg, hr0⟩ := h
 exact Kd.S_types ho hb ht
theorem IsS37.own_neS {w0 W : World} {g : Nat} {f0 : List Int} {f1 : Int} {f2 : Int} {α : Type} {d : Kd α} {e : Nat} {base : Nat} {ok : Nat → Prop} {v : Value} {xs : List α} (h : IsS37 w0 W g f0 f1 f2) (ho : d.S e W base ok v xs) (ht : e ≠ 37) : some g ≠ v.ownBlock := by
 obtain ⟨A0, c0, hb, hg, hr0⟩ := h
 exact Kd.S_ne ho hb ht
theorem IsS37.lt {w0 W : World} {g : Nat} {f0 : List Int} {f1 : Int} {f2 : Int} (h : IsS37 w0 W g f0 f1 f2) : g < W.heap.size := by
 obtain ⟨A0, c0, hb, hg, hr0⟩ := h
 exact blk_lt hb
theorem IsS37.ge {w0 W : World} {g : Nat} {f0 : List Int} {f1 : Int} {f2 : Int} (h : IsS37 w0 W g f0 f1 f2) : w0.heap.size ≤ g := by
 obtain ⟨A0, c0, hb, hg, hr0⟩ := h
 exact hg
theorem IsS37.ne_blk {w0 W : World} {g : Nat} {f0 : List Int} {f1 : Int} {f2 : Int} {a : Nat} {cs : Array Value} {t : TypeId} {fr : Nat × Nat} (h : IsS37 w0 W g f0 f1 f2) (hb2 : W.heap[a]? = some (.cells cs t fr)) (ht : t ≠ 37) : g ≠ a := by
 obtain ⟨A0, c0, hb, hg, hr0⟩ := h
 rintro rfl
 rw [hb] at hb2
 injection hb2 with hb2
 injection hb2 with _ ht2
 exact ht ht2.symm
theorem IsS37.far {w0 W : World} {g : Nat} {f0 : List Int} {f1 : Int} {f2 : Int} {p : Addr} (h : IsS37 w0 W g f0 f1 f2) (hne : g ≠ p.block) (u : Value) : IsS37 w0 (W.setCell p u) g f0 f1 f2 := by
 obtain ⟨A0, c0, hb, hg, hr0⟩ := h
 exact ⟨A0, c0, blk_far hb hne u, hg, hr0⟩
theorem cellS37_0 {W : World} {g : Nat} {A0 : Option Addr} {c0 : Nat} {f0 : List Int} {f1 : Int} {f2 : Int} (h : W.heap[g]? = some (.cells #[.slice A0 f0.length (f0.length + c0), .int .i64 f1, .int .i64 f2] 37 (0, 0))) : W.cell? ⟨g, 0, none⟩ = some (.slice A0 f0.length (f0.length + c0)) := (blk_cell h 0).trans rfl
theorem cellS37_1 {W : World} {g : Nat} {A0 : Option Addr} {c0 : Nat} {f0 : List Int} {f1 : Int} {f2 : Int} (h : W.heap[g]? = some (.cells #[.slice A0 f0.length (f0.length + c0), .int .i64 f1, .int .i64 f2] 37 (0, 0))) : W.cell? ⟨g, 1, none⟩ = some (.int .i64 f1) := (blk_cell h 1).trans rfl
theorem IsS37.set_1 {w0 W : World} {g : Nat} {f0 : List Int} {f1 : Int} {f2 : Int} (h : IsS37 w0 W g f0 f1 f2) (x : Int) : IsS37 w0 (W.setCell ⟨g, 1, none⟩ (.int .i64 x)) g f0 x f2 := by
 obtain ⟨A0, c0, hb, hg, hr0⟩ := h
 exact ⟨A0, c0, by simpa using blk_set hb 1 (.int .i64 x), hg, hr0⟩
theorem cellS37_2 {W : World} {g : Nat} {A0 : Option Addr} {c0 : Nat} {f0 : List Int} {f1 : Int} {f2 : Int} (h : W.heap[g]? = some (.cells #[.slice A0 f0.length (f0.length + c0), .int .i64 f1, .int .i64 f2] 37 (0, 0))) : W.cell? ⟨g, 2, none⟩ = some (.int .i64 f2) := (blk_cell h 2).trans rfl
theorem IsS37.set_2 {w0 W : World} {g : Nat} {f0 : List Int} {f1 : Int} {f2 : Int} (h : IsS37 w0 W g f0 f1 f2) (x : Int) : IsS37 w0 (W.setCell ⟨g, 2, none⟩ (.int .i64 x)) g f0 f1 x := by
 obtain ⟨A0, c0, hb, hg, hr0⟩ := h
 exact ⟨A0, c0, by simpa using blk_set hb 2 (.int .i64 x), hg, hr0⟩
theorem IsS37.new (w0 W : World) (A0 : Option Addr) (c0 : Nat) (f0 : List Int) (f1 : Int) (f2 : Int) (hB : Below w0.heap.size w0 W) (hr0 : Kd.C (Kd.int .u8) w0 A0 f0.length f0) : IsS37 w0 (W.alloc (.cells #[.slice A0 f0.length (f0.length + c0), .int .i64 f1, .int .i64 f2] 37)) W.heap.size f0 f1 f2 := ⟨A0, c0, by simpa using heap_alloc_new W _, hB.size, hr0⟩

/-! ### cenotaphref06_Reader_Num: function 35 -/
theorem zq35_0 {p_ : Prop} (h_ : p_ := by first | (with_reducible assumption) | assumption) : p_ := h_
theorem zq35_1 {p_ : Prop} (h_ : p_ := by first | rfl | (simp; done) | (simp [*]; done)) : p_ := h_
def cenotaphref06_Reader_Num.l0 : Nat → Int → Int → Int → Int → List Int → Int → Int → Option (Int × Int × Int)
 | 0, _, _, _, _, _, _, _ => none
 | k + 1, x1, x5, x6, x7, x1000, x1001, x1002 => if x7 < 10 then (if x7 = 9 then (some (0, x1001, 3)) else (if (wrap64 (x1001 + x7)) ≥ (x1000.length : Int) then (some (0, x1001, 2)) else (if 0 ≤ (wrap64 (x1001 + x7)) then (if (wrap64 (x1001 + x7)) < (x1000.length : Int) then (if (wrap64 (rd x1000 (wrap64 (x1001 + x7)))) ≥ 128 then (cenotaphref06_Reader_Num.l0 k x1 (wrap64 (x5 + (wrap64 ((Int.tmod (wrap64 (rd x1000 (wrap64 (x1001 + x7)))) 128) * x6)))) (wrap64 (x6 * 128)) (wrap64 (x7 + 1)) x1000 x1001 x1002) else (if (wrap64 (rd x1000 (wrap64 (x1001 + x7)))) = 0 then (if x7 > 0 then (some (0, x1001, 3)) else (if (wrap64 (x5 + (wrap64 ((Int.tmod (wrap64 (rd x1000 (wrap64 (x1001 + x7)))) 128) * x6)))) > x1 then (some (0, x1001, 3)) else (some (wrap64 (x5 + (wrap64 ((Int.tmod (wrap64 (rd x1000 (wrap64 (x1001 + x7)))) 128) * x6))), wrap64 ((wrap64 (x1001 + x7)) + 1), x1002)))) else (if (wrap64 (x5 + (wrap64 ((Int.tmod (wrap64 (rd x1000 (wrap64 (x1001 + x7)))) 128) * x6)))) > x1 then (some (0, x1001, 3)) else (some (wrap64 (x5 + (wrap64 ((Int.tmod (wrap64 (rd x1000 (wrap64 (x1001 + x7)))) 128) * x6))), wrap64 ((wrap64 (x1001 + x7)) + 1), x1002))))) else (none)) else (none)))) else (some (0, x1001, x1002))
def cenotaphref06_Reader_Num.f (k : Nat) (s0_0 : List Int) (s0_1 : Int) (s0_2 : Int) (a1 : Int) : Option (Int × Int × Int) := if s0_2 = 0 then (cenotaphref06_Reader_Num.l0 k a1 0 1 0 s0_0 s0_1 s0_2) else (some (0, s0_1, s0_2))
theorem cenotaphref06_Reader_Num.mono_l : ∀ k, (∀ y0 y1 y2 y3 y4 y5 y6, LeO (cenotaphref06_Reader_Num.l0 k y0 y1 y2 y3 y4 y5 y6) (cenotaphref06_Reader_Num.l0 (k + 1) y0 y1 y2 y3 y4 y5 y6))
 | 0 => fun _ _ _ _ _ _ _ r h => by simp [cenotaphref06_Reader_Num.l0] at h
 | k + 1 => by
  have ih0 := cenotaphref06_Reader_Num.mono_l k
  ·intro y0 y1 y2 y3 y4 y5 y6
   unfold cenotaphref06_Reader_Num.l0
   repeat' first
   | (with_reducible exact ih0 _ _ _ _ _ _ _)
   | (with_reducible exact LeO.refl _)
   | (with_reducible exact LeO.none _)
   | (with_reducible refine LeO.ite ?_ ?_)
   | (with_reducible refine LeO.bind ?_ (fun _ => ?_))
   | exact ih0 _ _ _ _ _ _ _
   | exact LeO.none _
   | refine LeO.ite ?_ ?_
   | refine LeO.bind ?_ (fun _ => ?_)
theorem cenotaphref06_Reader_Num.mono : ∀ a0 a1 a2 a3 k, LeO (cenotaphref06_Reader_Num.f k a0 a1 a2 a3) (cenotaphref06_Reader_Num.f (k + 1) a0 a1 a2 a3) := by
 intro a0 a1 a2 a3 k
 have ih0 := cenotaphref06_Reader_Num.mono_l k
 unfold cenotaphref06_Reader_Num.f
 repeat' first
   | (with_reducible exact ih0 _ _ _ _ _ _ _)
   | (with_reducible exact LeO.refl _)
   | (with_reducible exact LeO.none _)
   | (with_reducible refine LeO.ite ?_ ?_)
   | (with_reducible refine LeO.bind ?_ (fun _ => ?_))
   | exact ih0 _ _ _ _ _ _ _
   | exact LeO.none _
   | refine LeO.ite ?_ ?_
   | refine LeO.bind ?_ (fun _ => ?_)
set_option maxHeartbeats 8000000 in
set_option maxRecDepth 100000 in
theorem cenotaphref06_Reader_Num.calls (k : Nat) (g : Nat) (s0_0 : List Int) (s0_1 : Int) (s0_2 : Int) (a1 : Int) (r1 : Int) (r2 : Int) (r3 : Int) (w0 w : World) (hI : IsS37 w0 w g s0_0 s0_1 s0_2) (hB : Below w0.heap.size w0 w) (h : cenotaphref06_Reader_Num.f k s0_0 s0_1 s0_2 a1 = some (r1, r2, r3)) :
  Calls Try.prog 35 #[.pointer (some ⟨g, 0, none⟩), .int .i64 a1] w fun e w' => e = .returned (.int .i64 r1) ∧ IsS37 w0 w' g s0_0 r2 r3 ∧ Below w0.heap.size w0 w' ∧ KeepBut w w' g none := by
 have HI0 := Aside0.mk hI
 have HK := Aside0.mk (KeepBut.refl w g none)
 have HL := Aside0.mk hB.size
 clear hI
 have HW0 := Aside0.mk hB.size
 have HB := Aside0.mk hB
 clear hB
 have H : (if s0_2 = 0 then (cenotaphref06_Reader_Num.l0 k a1 0 1 0 s0_0 s0_1 s0_2) else (some (0, s0_1, s0_2))) = some (r1, r2, r3) := h
 clear h
 by_cases c3 : s0_2 = 0
 ·rw [if_pos c3] at H
  have c3b0 : (s0_2 == 0) = true := beq_iff_eq.mpr c3
  have c3b1 : (s0_2 != 0) = false := bne_eq_false_iff_eq.mpr c3
  clear c3
  have H' := Aside0.mk H
  clear H
  obtain ⟨ASz4_0, cSz4_0, HGz4, hgz4, HSz4_0⟩ := HI0.out
  have hcz4_0 := cellS37_0 HGz4
  have hcz4_1 := cellS37_1 HGz4
  have hcz4_2 := cellS37_2 HGz4
  have hfz4_1 := blk_frozen HGz4 1
  have hfz4_2 := blk_frozen HGz4 2
  clear HGz4 hgz4
  go_enter Try.func35, Try.ntmps35
  go_wp2
  repeat (go_quiet (fail); try go_wp2)
  go_loopg [5, 6, 7] k (fun kq v5 v6 v7 w' => ∃ (x5_1 : Int) (x6_1 : Int) (x7_1 : Int) (x1001_1 : Int) (x1002_1 : Int), v5 = .int .i64 x5_1 ∧ v6 = .int .i64 x6_1 ∧ v7 = .int .i64 x7_1 ∧ Aside0 (cenotaphref06_Reader_Num.l0 kq a1 x5_1 x6_1 x7_1 s0_0 x1001_1 x1002_1 = some (r1, r2, r3)) ∧ Aside0 (kq ≤ k) ∧ Aside0 (IsS37 w0 w' g s0_0 x1001_1 x1002_1) ∧ Aside0 (KeepBut w w' g none) ∧ Aside0 (Below w0.heap.size w0 w'))
  case atStart => exact ⟨(0), (1), (0), (s0_1), (s0_2), zq35_1, zq35_1, zq35_1, H', ⟨Nat.le_refl _⟩, ⟨by repeat (first | (with_reducible first | exact HI0.out | apply IsS37.alloc | apply IsS37.drewN | apply IsS37.drew | apply IsS37.set_1 | apply IsS37.set_2) | exact HI0.out)⟩, ⟨by repeat (first | (with_reducible first | exact HK.out | apply KeepBut.set_ | apply keep_drewN | apply keep_drew | apply keep_alloc) | exact HK.out)⟩, ⟨by repeat (first | (with_reducible first | exact HB.out | apply below_alloc | apply pw_below_drewN | apply below_drew1 | refine below_set ?_ (IsS37.ge HI0.out)) | exact HB.out)⟩⟩
  case round =>
   clear H'
   try clear p2
   try clear c3
   try clear c3b0
   try clear c3b1
   try clear hcz4_0
   try clear hcz4_1
   try clear hcz4_2
   try clear hfz4_1
   try clear hfz4_2
   obtain ⟨x5_1, x6_1, x7_1, x1001_1, x1002_1, rfl, rfl, rfl, HA, HK1, HI0, HK, HB⟩ := hrel
   cases gk with
   | zero => exact absurd HA.out (by simp [cenotaphref06_Reader_Num.l0])
   | succ k1 =>
    have H := HA.out
    clear HA
    simp only [cenotaphref06_Reader_Num.l0] at H
    by_cases c5 : x7_1 < 10
    ·rw [if_pos c5] at H
     have c5b0 : decide (x7_1 < 10) = true := decide_eq_true c5
     clear c5
     by_cases c6 : x7_1 = 9
     ·rw [if_pos c6] at H
      have c6b0 : (x7_1 == 9) = true := beq_iff_eq.mpr c6
      have c6b1 : (x7_1 != 9) = false := bne_eq_false_iff_eq.mpr c6
      clear c6
      simp only [Option.some.injEq, Prod.mk.injEq] at H
      obtain ⟨rfl, rfl, rfl⟩ := H
      obtain ⟨ASz7_0, cSz7_0, HGz7, hgz7, HSz7_0⟩ := HI0.out
      have hcz7_0 := cellS37_0 HGz7
      have hcz7_1 := cellS37_1 HGz7
      have hcz7_2 := cellS37_2 HGz7
      have hfz7_1 := blk_frozen HGz7 1
      have hfz7_2 := blk_frozen HGz7 2
      clear HGz7 hgz7
      go_wp2
      repeat (go_quiet (fail); try go_wp2)
      go_ret
      exact ⟨by first | rfl | (simp [errW_none, errW_some] <;> rfl) | (simp [*, errW_none, errW_some] <;> rfl), by repeat (first | (with_reducible first | exact HI0.out | apply IsS37.alloc | apply IsS37.drewN | apply IsS37.drew | apply IsS37.set_1 | apply IsS37.set_2) | exact HI0.out), by repeat (first | (with_reducible first | exact HB.out | apply below_alloc | apply pw_below_drewN | apply below_drew1 | refine below_set ?_ (IsS37.ge HI0.out)) | exact HB.out), by repeat (first | (with_reducible first | exact HK.out | apply KeepBut.set_ | apply keep_drewN | apply keep_drew | apply keep_alloc) | exact HK.out)⟩
     ·rw [if_neg c6] at H
      have c6b0 : (x7_1 == 9) = false := beq_eq_false_iff_ne.mpr c6
      have c6b1 : (x7_1 != 9) = true := bne_iff_ne.mpr c6
      by_cases c8 : (wrap64 (x1001_1 + x7_1)) ≥ (s0_0.length : Int)
      ·rw [if_pos c8] at H
       have c8b0 : decide ((s0_0.length : Int) ≤ (wrap64 (x1001_1 + x7_1))) = true := decide_eq_true c8
       clear c8
       simp only [Option.some.injEq, Prod.mk.injEq] at H
       obtain ⟨rfl, rfl, rfl⟩ := H
       obtain ⟨ASz9_0, cSz9_0, HGz9, hgz9, HSz9_0⟩ := HI0.out
       have hcz9_0 := cellS37_0 HGz9
       have hcz9_1 := cellS37_1 HGz9
       have hcz9_2 := cellS37_2 HGz9
       have hfz9_1 := blk_frozen HGz9 1
       have hfz9_2 := blk_frozen HGz9 2
       clear HGz9 hgz9
       go_wp2
       repeat (go_quiet (fail); try go_wp2)
       go_ret
       exact ⟨by first | rfl | (simp [errW_none, errW_some] <;> rfl) | (simp [*, errW_none, errW_some] <;> rfl), by repeat (first | (with_reducible first | exact HI0.out | apply IsS37.alloc | apply IsS37.drewN | apply IsS37.drew | apply IsS37.set_1 | apply IsS37.set_2) | exact HI0.out), by repeat (first | (with_reducible first | exact HB.out | apply below_alloc | apply pw_below_drewN | apply below_drew1 | refine below_set ?_ (IsS37.ge HI0.out)) | exact HB.out), by repeat (first | (with_reducible first | exact HK.out | apply KeepBut.set_ | apply keep_drewN | apply keep_drew | apply keep_alloc) | exact HK.out)⟩
      ·rw [if_neg c8] at H
       have c8b0 : decide ((s0_0.length : Int) ≤ (wrap64 (x1001_1 + x7_1))) = false := decide_eq_false c8
       clear c8
       obtain ⟨ji10, hji10⟩ : ∃ j_ : Int, (wrap64 (x1001_1 + x7_1)) = j_ := ⟨_, rfl⟩
       replace H : (if 0 ≤ (ji10) then (if (ji10) < (s0_0.length : Int) then (if (wrap64 (rd s0_0 (ji10))) ≥ 128 then (cenotaphref06_Reader_Num.l0 k1 a1 (wrap64 (x5_1 + (wrap64 ((Int.tmod (wrap64 (rd s0_0 (ji10))) 128) * x6_1)))) (wrap64 (x6_1 * 128)) (wrap64 (x7_1 + 1)) s0_0 x1001_1 x1002_1) else (if (wrap64 (rd s0_0 (ji10))) = 0 then (if x7_1 > 0 then (some (0, x1001_1, 3)) else (if (wrap64 (x5_1 + (wrap64 ((Int.tmod (wrap64 (rd s0_0 (ji10))) 128) * x6_1)))) > a1 then (some (0, x1001_1, 3)) else (some (wrap64 (x5_1 + (wrap64 ((Int.tmod (wrap64 (rd s0_0 (ji10))) 128) * x6_1))), wrap64 ((ji10) + 1), x1002_1)))) else (if (wrap64 (x5_1 + (wrap64 ((Int.tmod (wrap64 (rd s0_0 (ji10))) 128) * x6_1)))) > a1 then (some (0, x1001_1, 3)) else (some (wrap64 (x5_1 + (wrap64 ((Int.tmod (wrap64 (rd s0_0 (ji10))) 128) * x6_1))), wrap64 ((ji10) + 1), x1002_1))))) else (none)) else (none)) = some (r1, r2, r3) := by first | (rw [hji10] at H; exact H) | (simp only [hji10] at H ⊢; exact H)
       (try rw [hji10] at c8b0)
       have hji10w : (IntKind.i64.wrap (x1001_1 + x7_1)) = ji10 := (i64_w _).trans hji10
       by_cases c11 : 0 ≤ (ji10)
       ·rw [if_pos c11] at H
        have c11b0 : decide (0 ≤ (ji10)) = true := decide_eq_true c11
        clear c11
        by_cases c12 : (ji10) < (s0_0.length : Int)
        ·rw [if_pos c12] at H
         have c12b0 : decide ((ji10) < (s0_0.length : Int)) = true := decide_eq_true c12
         clear c12
         by_cases c13 : (wrap64 (rd s0_0 (ji10))) ≥ 128
         ·rw [if_pos c13] at H
          have c13b0 : decide (128 ≤ (wrap64 (rd s0_0 (ji10)))) = true := decide_eq_true c13
          clear c13
          have H' := Aside0.mk H
          clear H
          obtain ⟨ASz14_0, cSz14_0, HGz14, hgz14, HSz14_0⟩ := HI0.out
          have hcz14_0 := cellS37_0 HGz14
          have hcz14_1 := cellS37_1 HGz14
          have hcz14_2 := cellS37_2 HGz14
          have hfz14_1 := blk_frozen HGz14 1
          have hfz14_2 := blk_frozen HGz14 2
          clear HGz14 hgz14
          have p185 : 0 ≤ ((ji10) : Int) := of_decide_eq_true zq35_0
          have q185 : (ji10) < (s0_0.length : Int) := of_decide_eq_true zq35_0
          obtain ⟨ad185, e185, hx185_0⟩ := Kd.at_int HSz14_0 (ji10) p185 q185
          cases e185
          replace hx185_0 := pw_cell_below HB.out hx185_0
          replace p185 := eq_true p185
          replace q185 := eq_true q185
          go_wp2
          repeat (go_quiet (fail); try go_wp2)
          go_roundg k1
          case measure => have := HK1.out; omega
          case rel => exact ⟨(wrap64 (x5_1 + (wrap64 ((Int.tmod (wrap64 (rd s0_0 (ji10))) 128) * x6_1)))), (wrap64 (x6_1 * 128)), (wrap64 (x7_1 + 1)), (x1001_1), (x1002_1), (by first | rfl | (simp; done) | (simp only [← hji10] <;> (first | rfl | simp)) | (simp [*]; done)), zq35_1, zq35_1, H', ⟨by have := HK1.out; omega⟩, ⟨by repeat (first | (with_reducible first | exact HI0.out | apply IsS37.alloc | apply IsS37.drewN | apply IsS37.drew | apply IsS37.set_1 | apply IsS37.set_2) | exact HI0.out)⟩, ⟨by repeat (first | (with_reducible first | exact HK.out | apply KeepBut.set_ | apply keep_drewN | apply keep_drew | apply keep_alloc) | exact HK.out)⟩, ⟨by repeat (first | (with_reducible first | exact HB.out | apply below_alloc | apply pw_below_drewN | apply below_drew1 | refine below_set ?_ (IsS37.ge HI0.out)) | exact HB.out)⟩⟩
         ·rw [if_neg c13] at H
          have c13b0 : decide (128 ≤ (wrap64 (rd s0_0 (ji10)))) = false := decide_eq_false c13
          clear c13
          by_cases c15 : (wrap64 (rd s0_0 (ji10))) = 0
          ·rw [if_pos c15] at H
           have c15b0 : ((wrap64 (rd s0_0 (ji10))) == 0) = true := beq_iff_eq.mpr c15
           have c15b1 : ((wrap64 (rd s0_0 (ji10))) != 0) = false := bne_eq_false_iff_eq.mpr c15
           clear c15
           by_cases c16 : x7_1 > 0
           ·rw [if_pos c16] at H
            have c16b0 : decide (0 < x7_1) = true := decide_eq_true c16
            clear c16
            simp only [Option.some.injEq, Prod.mk.injEq] at H
            obtain ⟨rfl, rfl, rfl⟩ := H
            obtain ⟨ASz17_0, cSz17_0, HGz17, hgz17, HSz17_0⟩ := HI0.out
            have hcz17_0 := cellS37_0 HGz17
            have hcz17_1 := cellS37_1 HGz17
            have hcz17_2 := cellS37_2 HGz17
            have hfz17_1 := blk_frozen HGz17 1
            have hfz17_2 := blk_frozen HGz17 2
            clear HGz17 hgz17
            have p185 : 0 ≤ ((ji10) : Int) := of_decide_eq_true zq35_0
            have q185 : (ji10) < (s0_0.length : Int) := of_decide_eq_true zq35_0
            obtain ⟨ad185, e185, hx185_0⟩ := Kd.at_int HSz17_0 (ji10) p185 q185
            cases e185
            replace hx185_0 := pw_cell_below HB.out hx185_0
            replace p185 := eq_true p185
            replace q185 := eq_true q185
            go_wp2
            repeat (go_quiet (fail); try go_wp2)
            go_ret
            exact ⟨by first | rfl | (simp [errW_none, errW_some] <;> rfl) | (simp only [← hji10]; first | rfl | (simp [errW_none, errW_some] <;> rfl)) | (simp [*, errW_none, errW_some] <;> rfl), by repeat (first | (with_reducible first | exact HI0.out | apply IsS37.alloc | apply IsS37.drewN | apply IsS37.drew | apply IsS37.set_1 | apply IsS37.set_2) | exact HI0.out), by repeat (first | (with_reducible first | exact HB.out | apply below_alloc | apply pw_below_drewN | apply below_drew1 | refine below_set ?_ (IsS37.ge HI0.out)) | exact HB.out), by repeat (first | (with_reducible first | exact HK.out | apply KeepBut.set_ | apply keep_drewN | apply keep_drew | apply keep_alloc) | exact HK.out)⟩
           ·rw [if_neg c16] at H
            have c16b0 : decide (0 < x7_1) = false := decide_eq_false c16
            clear c16
            by_cases c18 : (wrap64 (x5_1 + (wrap64 ((Int.tmod (wrap64 (rd s0_0 (ji10))) 128) * x6_1)))) > a1
            ·rw [if_pos c18] at H
             have c18b0 : decide (a1 < (wrap64 (x5_1 + (wrap64 ((Int.tmod (wrap64 (rd s0_0 (ji10))) 128) * x6_1))))) = true := decide_eq_true c18
             clear c18
             simp only [Option.some.injEq, Prod.mk.injEq] at H
             obtain ⟨rfl, rfl, rfl⟩ := H
             obtain ⟨ASz19_0, cSz19_0, HGz19, hgz19, HSz19_0⟩ := HI0.out
             have hcz19_0 := cellS37_0 HGz19
             have hcz19_1 := cellS37_1 HGz19
             have hcz19_2 := cellS37_2 HGz19
             have hfz19_1 := blk_frozen HGz19 1
             have hfz19_2 := blk_frozen HGz19 2
             clear HGz19 hgz19
             have p185 : 0 ≤ ((ji10) : Int) := of_decide_eq_true zq35_0
             have q185 : (ji10) < (s0_0.length : Int) := of_decide_eq_true zq35_0
             obtain ⟨ad185, e185, hx185_0⟩ := Kd.at_int HSz19_0 (ji10) p185 q185
             cases e185
             replace hx185_0 := pw_cell_below HB.out hx185_0
             replace p185 := eq_true p185
             replace q185 := eq_true q185
             go_wp2
             repeat (go_quiet (fail); try go_wp2)
             go_ret
             exact ⟨by first | rfl | (simp [errW_none, errW_some] <;> rfl) | (simp only [← hji10]; first | rfl | (simp [errW_none, errW_some] <;> rfl)) | (simp [*, errW_none, errW_some] <;> rfl), by repeat (first | (with_reducible first | exact HI0.out | apply IsS37.alloc | apply IsS37.drewN | apply IsS37.drew | apply IsS37.set_1 | apply IsS37.set_2) | exact HI0.out), by repeat (first | (with_reducible first | exact HB.out | apply below_alloc | apply pw_below_drewN | apply below_drew1 | refine below_set ?_ (IsS37.ge HI0.out)) | exact HB.out), by repeat (first | (with_reducible first | exact HK.out | apply KeepBut.set_ | apply keep_drewN | apply keep_drew | apply keep_alloc) | exact HK.out)⟩
            ·rw [if_neg c18] at H
             have c18b0 : decide (a1 < (wrap64 (x5_1 + (wrap64 ((Int.tmod (wrap64 (rd s0_0 (ji10))) 128) * x6_1))))) = false := decide_eq_false c18
             clear c18
             simp only [Option.some.injEq, Prod.mk.injEq] at H
             obtain ⟨rfl, rfl, rfl⟩ := H
             obtain ⟨ASz20_0, cSz20_0, HGz20, hgz20, HSz20_0⟩ := HI0.out
             have hcz20_0 := cellS37_0 HGz20
             have hcz20_1 := cellS37_1 HGz20
             have hcz20_2 := cellS37_2 HGz20
             have hfz20_1 := blk_frozen HGz20 1
             have hfz20_2 := blk_frozen HGz20 2
             clear HGz20 hgz20
             have p185 : 0 ≤ ((ji10) : Int) := of_decide_eq_true zq35_0
             have q185 : (ji10) < (s0_0.length : Int) := of_decide_eq_true zq35_0
             obtain ⟨ad185, e185, hx185_0⟩ := Kd.at_int HSz20_0 (ji10) p185 q185
             cases e185
             replace hx185_0 := pw_cell_below HB.out hx185_0
             replace p185 := eq_true p185
             replace q185 := eq_true q185
             go_wp2
             repeat (go_quiet (fail); try go_wp2)
             go_ret
             exact ⟨by first | rfl | (simp [errW_none, errW_some] <;> rfl) | (simp only [← hji10]; first | rfl | (simp [errW_none, errW_some] <;> rfl)) | (simp [*, errW_none, errW_some] <;> rfl), by repeat (first | (with_reducible first | exact HI0.out | apply IsS37.alloc | apply IsS37.drewN | apply IsS37.drew | apply IsS37.set_1 | apply IsS37.set_2) | exact HI0.out), by repeat (first | (with_reducible first | exact HB.out | apply below_alloc | apply pw_below_drewN | apply below_drew1 | refine below_set ?_ (IsS37.ge HI0.out)) | exact HB.out), by repeat (first | (with_reducible first | exact HK.out | apply KeepBut.set_ | apply keep_drewN | apply keep_drew | apply keep_alloc) | exact HK.out)⟩
          ·rw [if_neg c15] at H
           have c15b0 : ((wrap64 (rd s0_0 (ji10))) == 0) = false := beq_eq_false_iff_ne.mpr c15
           have c15b1 : ((wrap64 (rd s0_0 (ji10))) != 0) = true := bne_iff_ne.mpr c15
           by_cases c21 : (wrap64 (x5_1 + (wrap64 ((Int.tmod (wrap64 (rd s0_0 (ji10))) 128) * x6_1)))) > a1
           ·rw [if_pos c21] at H
            have c21b0 : decide (a1 < (wrap64 (x5_1 + (wrap64 ((Int.tmod (wrap64 (rd s0_0 (ji10))) 128) * x6_1))))) = true := decide_eq_true c21
            clear c21
            simp only [Option.some.injEq, Prod.mk.injEq] at H
            obtain ⟨rfl, rfl, rfl⟩ := H
            obtain ⟨ASz22_0, cSz22_0, HGz22, hgz22, HSz22_0⟩ := HI0.out
            have hcz22_0 := cellS37_0 HGz22
            have hcz22_1 := cellS37_1 HGz22
            have hcz22_2 := cellS37_2 HGz22
            have hfz22_1 := blk_frozen HGz22 1
            have hfz22_2 := blk_frozen HGz22 2
            clear HGz22 hgz22
            have p185 : 0 ≤ ((ji10) : Int) := of_decide_eq_true zq35_0
            have q185 : (ji10) < (s0_0.length : Int) := of_decide_eq_true zq35_0
            obtain ⟨ad185, e185, hx185_0⟩ := Kd.at_int HSz22_0 (ji10) p185 q185
            cases e185
            replace hx185_0 := pw_cell_below HB.out hx185_0
            replace p185 := eq_true p185
            replace q185 := eq_true q185
            go_wp2
            repeat (go_quiet (fail); try go_wp2)
            go_ret
            exact ⟨by first | rfl | (simp [errW_none, errW_some] <;> rfl) | (simp only [← hji10]; first | rfl | (simp [errW_none, errW_some] <;> rfl)) | (simp [*, errW_none, errW_some] <;> rfl), by repeat (first | (with_reducible first | exact HI0.out | apply IsS37.alloc | apply IsS37.drewN | apply IsS37.drew | apply IsS37.set_1 | apply IsS37.set_2) | exact HI0.out), by repeat (first | (with_reducible first | exact HB.out | apply below_alloc | apply pw_below_drewN | apply below_drew1 | refine below_set ?_ (IsS37.ge HI0.out)) | exact HB.out), by repeat (first | (with_reducible first | exact HK.out | apply KeepBut.set_ | apply keep_drewN | apply keep_drew | apply keep_alloc) | exact HK.out)⟩
           ·rw [if_neg c21] at H
            have c21b0 : decide (a1 < (wrap64 (x5_1 + (wrap64 ((Int.tmod (wrap64 (rd s0_0 (ji10))) 128) * x6_1))))) = false := decide_eq_false c21
            clear c21
            simp only [Option.some.injEq, Prod.mk.injEq] at H
            obtain ⟨rfl, rfl, rfl⟩ := H
            obtain ⟨ASz23_0, cSz23_0, HGz23, hgz23, HSz23_0⟩ := HI0.out
            have hcz23_0 := cellS37_0 HGz23
            have hcz23_1 := cellS37_1 HGz23
            have hcz23_2 := cellS37_2 HGz23
            have hfz23_1 := blk_frozen HGz23 1
            have hfz23_2 := blk_frozen HGz23 2
            clear HGz23 hgz23
            have p185 : 0 ≤ ((ji10) : Int) := of_decide_eq_true zq35_0
            have q185 : (ji10) < (s0_0.length : Int) := of_decide_eq_true zq35_0
            obtain ⟨ad185, e185, hx185_0⟩ := Kd.at_int HSz23_0 (ji10) p185 q185
            cases e185
            replace hx185_0 := pw_cell_below HB.out hx185_0
            replace p185 := eq_true p185
            replace q185 := eq_true q185
            go_wp2
            repeat (go_quiet (fail); try go_wp2)
            go_ret
            exact ⟨by first | rfl | (simp [errW_none, errW_some] <;> rfl) | (simp only [← hji10]; first | rfl | (simp [errW_none, errW_some] <;> rfl)) | (simp [*, errW_none, errW_some] <;> rfl), by repeat (first | (with_reducible first | exact HI0.out | apply IsS37.alloc | apply IsS37.drewN | apply IsS37.drew | apply IsS37.set_1 | apply IsS37.set_2) | exact HI0.out), by repeat (first | (with_reducible first | exact HB.out | apply below_alloc | apply pw_below_drewN | apply below_drew1 | refine below_set ?_ (IsS37.ge HI0.out)) | exact HB.out), by repeat (first | (with_reducible first | exact HK.out | apply KeepBut.set_ | apply keep_drewN | apply keep_drew | apply keep_alloc) | exact HK.out)⟩
        ·rw [if_neg c12] at H
         exact absurd H (by simp)
       ·rw [if_neg c11] at H
        exact absurd H (by simp)
    ·rw [if_neg c5] at H
     have c5b0 : decide (x7_1 < 10) = false := decide_eq_false c5
     clear c5
     simp only [Option.some.injEq, Prod.mk.injEq] at H
     obtain ⟨rfl, rfl, rfl⟩ := H
     go_wp2
     repeat (go_quiet (fail); try go_wp2)
     go_ret
     exact ⟨by first | rfl | (simp [errW_none, errW_some] <;> rfl) | (simp [*, errW_none, errW_some] <;> rfl), by repeat (first | (with_reducible first | exact HI0.out | apply IsS37.alloc | apply IsS37.drewN | apply IsS37.drew | apply IsS37.set_1 | apply IsS37.set_2) | exact HI0.out), by repeat (first | (with_reducible first | exact HB.out | apply below_alloc | apply pw_below_drewN | apply below_drew1 | refine below_set ?_ (IsS37.ge HI0.out)) | exact HB.out), by repeat (first | (with_reducible first | exact HK.out | apply KeepBut.set_ | apply keep_drewN | apply keep_drew | apply keep_alloc) | exact HK.out)⟩
 ·rw [if_neg c3] at H
  have c3b0 : (s0_2 == 0) = false := beq_eq_false_iff_ne.mpr c3
  have c3b1 : (s0_2 != 0) = true := bne_iff_ne.mpr c3
  simp only [Option.some.injEq, Prod.mk.injEq] at H
  obtain ⟨rfl, rfl, rfl⟩ := H
  obtain ⟨ASz24_0, cSz24_0, HGz24, hgz24, HSz24_0⟩ := HI0.out
  have hcz24_0 := cellS37_0 HGz24
  have hcz24_1 := cellS37_1 HGz24
  have hcz24_2 := cellS37_2 HGz24
  have hfz24_1 := blk_frozen HGz24 1
  have hfz24_2 := blk_frozen HGz24 2
  clear HGz24 hgz24
  go_enter Try.func35, Try.ntmps35
  go_wp2
  repeat (go_quiet (fail); try go_wp2)
  go_ret
  exact ⟨by first | rfl | (simp [errW_none, errW_some] <;> rfl) | (simp [*, errW_none, errW_some] <;> rfl), by repeat (first | (with_reducible first | exact HI0.out | apply IsS37.alloc | apply IsS37.drewN | apply IsS37.drew | apply IsS37.set_1 | apply IsS37.set_2) | exact HI0.out), by repeat (first | (with_reducible first | exact HB.out | apply below_alloc | apply pw_below_drewN | apply below_drew1 | refine below_set ?_ (IsS37.ge HI0.out)) | exact HB.out), by repeat (first | (with_reducible first | exact HK.out | apply KeepBut.set_ | apply keep_drewN | apply keep_drew | apply keep_alloc) | exact HK.out)⟩

/-! ### cenotaphref06_Reader_Text: function 36 -/
def cenotaphref06_Reader_Text.f (k : Nat) (s0_0 : List Int) (s0_1 : Int) (s0_2 : Int) (a1 : Int) : Option (ByteArray × Int × Int) := (cenotaphref06_Reader_Num.f k s0_0 s0_1 s0_2 a1).bind fun p => if ¬ p.2.2 = 0 then some (⟨#[]⟩, p.2.1, p.2.2) else if 0 ≤ p.1 ∧ 0 ≤ p.2.1 ∧ p.2.1 ≤ (s0_0.length : Int) then (if p.1 > (s0_0.length : Int) - p.2.1 then some (⟨#[]⟩, p.2.1, 2) else some (strOfNums ((s0_0.take (p.2.1 + p.1).toNat).drop p.2.1.toNat), p.2.1 + p.1, 0)) else none
theorem cenotaphref06_Reader_Text.mono (s0_0 : List Int) (s0_1 : Int) (s0_2 : Int) (a1 : Int) : ∀ k, LeO (cenotaphref06_Reader_Text.f k s0_0 s0_1 s0_2 a1) (cenotaphref06_Reader_Text.f (k + 1) s0_0 s0_1 s0_2 a1) := by
  intro k r h
  obtain ⟨p, hp, h2⟩ := Option.bind_eq_some_iff.mp h
  exact Option.bind_eq_some_iff.mpr ⟨p, cenotaphref06_Reader_Num.mono s0_0 s0_1 s0_2 a1 k p hp, h2⟩
set_option maxHeartbeats 8000000 in
set_option maxRecDepth 100000 in
theorem cenotaphref06_Reader_Text.calls (k : Nat) (g : Nat) (s0_0 : List Int) (s0_1 : Int) (s0_2 : Int) (a1 : Int) (r1 : ByteArray) (r2 : Int) (r3 : Int) (w0 w : World) (hI : IsS37 w0 w g s0_0 s0_1 s0_2) (hB : Below w0.heap.size w0 w) (h : cenotaphref06_Reader_Text.f k s0_0 s0_1 s0_2 a1 = some (r1, r2, r3)) :
    Calls Try.prog 36 #[.pointer (some ⟨g, 0, none⟩), .int .i64 a1] w fun e w' => e = .returned (.string r1) ∧ IsS37 w0 w' g s0_0 r2 r3 ∧ Below w0.heap.size w0 w' ∧ KeepBut w w' g none := by
  obtain ⟨⟨n, t1, t2⟩, hnum, h2⟩ := Option.bind_eq_some_iff.mp h
  dsimp only at h2
  clear h
  have H2 := Aside0.mk h2
  clear h2
  have HN := Aside0.mk (cenotaphref06_Reader_Num.calls k g s0_0 s0_1 s0_2 a1 n t1 t2 w0 w hI hB hnum)
  have HK := Aside0.mk (KeepBut.refl w g none)
  clear hI hB hnum
  go_enter Try.func36, Try.ntmps36
  go_wp2_with fail
  refine HN.out.mono ?_
  rintro e w1 ⟨rfl, hi, hb, hk⟩
  have HI0 := Aside0.mk hi
  have HB := Aside0.mk hb
  replace HK := Aside0.mk (HK.out.trans hk (.inl rfl))
  clear hi hb hk HN
  obtain ⟨ASz2_0, cSz2_0, HGz2, hgz2, HSz2_0⟩ := HI0.out
  have hcz2_0 := cellS37_0 HGz2
  have hcz2_1 := cellS37_1 HGz2
  have hcz2_2 := cellS37_2 HGz2
  have hfz2_1 := blk_frozen HGz2 1
  have hfz2_2 := blk_frozen HGz2 2
  clear hgz2
  have h2 := H2.out
  clear H2
  have hlen := HSz2_0.2.1
  by_cases hz : t2 = 0
  · subst hz
    rw [if_neg (by simp)] at h2
    by_cases hc : 0 ≤ n ∧ 0 ≤ t1 ∧ t1 ≤ (s0_0.length : Int)
    · rw [if_pos hc] at h2
      obtain ⟨hn0, ht0, ht1⟩ := hc
      have hw1 : IntKind.i64.wrap ((s0_0.length : Int) - t1) = (s0_0.length : Int) - t1 := by rw [IntKind.wrap_i64] <;> omega
      by_cases hgt : n > (s0_0.length : Int) - t1
      · rw [if_pos hgt] at h2
        have hgb : decide ((s0_0.length : Int) - t1 < n) = true := decide_eq_true hgt
        have hgb2 := eq_true hgt
        simp only [Option.some.injEq, Prod.mk.injEq] at h2
        obtain ⟨rfl, rfl, rfl⟩ := h2
        clear HGz2
        go_wp2
        repeat (go_quiet (fail); try go_wp2)
        all_goals try (exfalso; omega)
        go_ret
        exact ⟨rfl, by repeat (first | (with_reducible first | exact HI0.out | apply IsS37.drewN | apply IsS37.drew | apply IsS37.set_1 | apply IsS37.set_2) | exact HI0.out), by repeat (first | (with_reducible first | exact HB.out | apply below_alloc | apply pw_below_drewN | apply below_drew1 | refine below_set ?_ (IsS37.ge HI0.out)) | exact HB.out), by repeat (first | (with_reducible first | exact HK.out | apply KeepBut.set_ | apply keep_drewN | apply keep_drew | apply keep_alloc) | exact HK.out)⟩
      · rw [if_neg hgt] at h2
        have hgb : decide ((s0_0.length : Int) - t1 < n) = false := decide_eq_false hgt
        have hgb2 := eq_false hgt
        simp only [Option.some.injEq, Prod.mk.injEq] at h2
        obtain ⟨rfl, rfl, rfl⟩ := h2
        have hw2 : IntKind.i64.wrap (t1 + n) = t1 + n := by rw [IntKind.wrap_i64] <;> omega
        have hw3 : IntKind.i64.wrap (t1 + n - n) = t1 := by rw [IntKind.wrap_i64] <;> omega
        clear HGz2
        go_wp2
        repeat (go_quiet (fail); try go_wp2)
        all_goals try (exfalso; omega)
        refine with_ (fun W => IsS37 w0 W g s0_0 t1 0 ∧ Below w0.heap.size w0 W ∧ KeepBut w W g none) ⟨?_, ?_, ?_⟩ ?_
        · repeat (first | (with_reducible first | exact HI0.out | apply IsS37.drewN | apply IsS37.drew | apply IsS37.set_1 | apply IsS37.set_2) | exact HI0.out)
        · repeat (first | (with_reducible first | exact HB.out | apply below_alloc | apply pw_below_drewN | apply below_drew1 | refine below_set ?_ (IsS37.ge HI0.out)) | exact HB.out)
        · repeat (first | (with_reducible first | exact HK.out | apply KeepBut.set_ | apply keep_drewN | apply keep_drew | apply keep_alloc) | exact HK.out)
        rintro ⟨hi, hb, hk⟩
        replace HI0 := Aside0.mk hi
        replace HB := Aside0.mk hb
        replace HK := Aside0.mk hk
        clear hi hb hk hcz2_0 hcz2_1 hcz2_2 hfz2_1 hfz2_2
        generalize World.drewN _ _ = W at HI0 HB HK ⊢
        obtain ⟨A3, c3, HG3, hg3, HS3⟩ := HI0.out
        have hc3 := HS3.2.1
        obtain ⟨i1, hi1, hz1, hsz1, hby1⟩ := info_parts info5
        have hC4 := fun (W' : World) (hb' : Below w0.heap.size w0 W') => cut_lh A3 s0_0.length (s0_0.length + c3) t1 (t1 + n) ht0 (by omega) (by omega) (by omega) (Kd.C_below HS3 hb')
        have hw4 : wrap64 (t1 + n) = t1 + n := Go.Proofs.Ytkmhanpamdgnjaa.Pure.wrap_id (by omega) (by omega)
        have q1 := eq_true (show 0 ≤ t1 + n by omega)
        have q2 := eq_true (show t1 + n ≤ (s0_0.length : Int) + (c3 : Int) by omega)
        have q3 := eq_true ht0
        have q4 := eq_true (show t1 ≤ max (t1 + n) 0 by omega)
        have hcv := fun (W' : World) (hb' : Below w0.heap.size w0 W') => Kd.C_string (P := Try.prog) (c := s0_0.length + c3 - t1.toNat) Try.underlying32 Try.underlying5 Try.underlying9 (hC4 W' hb')
        obtain ⟨r, hr⟩ : ∃ r, strOfNums ((s0_0.take (t1 + n).toNat).drop t1.toNat) = r := ⟨_, rfl⟩
        rw [hr] at hcv
        have HRR := Aside0.mk hr
        clear hr
        refine start_ (n := 17) (S := fun w' => w'.cell? ⟨g, 0, none⟩ = some (.slice A3 s0_0.length (s0_0.length + c3)) ∧ w'.cell? ⟨g, 1, none⟩ = some (.int .i64 t1) ∧ (convert 32 9 (.slice (if s0_0.length + c3 = t1.toNat then A3 else A3.map fun x => x.add t1.toNat) ((t1 + n).toNat - t1.toNat) (s0_0.length + c3 - t1.toNat))).run Try.prog w' = .ok (.string r) w') (ds := []) #[false, false, false, false, false, false, false, false, false, false, false, false, false, false, false, false, false] (by kernel_rfl) rfl rfl ⟨cellS37_0 HG3, cellS37_1 HG3, hcv _ (below_drew1 HB.out)⟩ (fun hHeld => ?_)
        clear hcv hC4
        refine pure_ (i := 0) (N := some 30) (v := ?_) (a' := ?_) #[true, false, false, false, false, false, false, false, false, false, false, false, false, false, false, false, false] rfl rfl (by kernel_rfl) (fun _ _ _ h => h) (Or.inl ⟨by rfl, ?_⟩) ?_ ?_
        rotate_left
        · intro w'
          go_simp
          with_reducible rfl
        rotate_left
        · simp only [Act.put, List.setIfInBounds_toArray, List.set_cons_zero, List.set_cons_succ, i64_w, i32_w]
          rfl
        refine pure_ (i := 1) (N := some 31) (v := ?_) (a' := ?_) #[true, true, false, false, false, false, false, false, false, false, false, false, false, false, false, false, false] rfl rfl (by kernel_rfl) (fun _ _ _ h => h) (Or.inl ⟨by rfl, ?_⟩) ?_ ?_
        rotate_left
        · intro w'
          go_simp
          with_reducible rfl
        rotate_left
        · simp only [Act.put, List.setIfInBounds_toArray, List.set_cons_zero, List.set_cons_succ, i64_w, i32_w]
          rfl
        refine pure_ (i := 2) (N := some 32) (v := ?_) (a' := ?_) #[true, true, true, false, false, false, false, false, false, false, false, false, false, false, false, false, false] rfl rfl (by kernel_rfl) (fun _ _ _ h => h) (Or.inl ⟨by rfl, ?_⟩) ?_ ?_
        rotate_left
        · intro w'
          go_simp
          with_reducible rfl
        rotate_left
        · simp only [Act.put, List.setIfInBounds_toArray, List.set_cons_zero, List.set_cons_succ, i64_w, i32_w]
          rfl
        refine take_ (i := 3) (N := some 33) (v := ?_) (a' := ?_) #[true, true, true, true, false, false, false, false, false, false, false, false, false, false, false, false, false] rfl rfl (by kernel_rfl) (fun _ _ _ h => h) (Or.inl ⟨by rfl, ?_⟩) hHeld ?_ ?_
        rotate_left
        · rintro w' ⟨s0, s1, s2⟩
          go_simp
          with_reducible rfl
        rotate_left
        · simp only [Act.put, List.setIfInBounds_toArray, List.set_cons_zero, List.set_cons_succ, i64_w, i32_w]
          rfl
        refine pure_ (i := 4) (N := some 34) (v := ?_) (a' := ?_) #[true, true, true, true, true, false, false, false, false, false, false, false, false, false, false, false, false] rfl rfl (by kernel_rfl) (fun _ _ _ h => h) (Or.inl ⟨by rfl, ?_⟩) ?_ ?_
        rotate_left
        · intro w'
          go_simp
          with_reducible rfl
        rotate_left
        · simp only [Act.put, List.setIfInBounds_toArray, List.set_cons_zero, List.set_cons_succ, i64_w, i32_w]
          rfl
        refine pure_ (i := 5) (N := some 35) (v := ?_) (a' := ?_) #[true, true, true, true, true, true, false, false, false, false, false, false, false, false, false, false, false] rfl rfl (by kernel_rfl) (fun _ _ _ h => h) (Or.inl ⟨by rfl, ?_⟩) ?_ ?_
        rotate_left
        · intro w'
          go_simp
          with_reducible rfl
        rotate_left
        · simp only [Act.put, List.setIfInBounds_toArray, List.set_cons_zero, List.set_cons_succ, i64_w, i32_w]
          rfl
        refine pure_ (i := 6) (N := some 36) (v := ?_) (a' := ?_) #[true, true, true, true, true, true, true, false, false, false, false, false, false, false, false, false, false] rfl rfl (by kernel_rfl) (fun _ _ _ h => h) (Or.inl ⟨by rfl, ?_⟩) ?_ ?_
        rotate_left
        · intro w'
          go_simp
          with_reducible rfl
        rotate_left
        · simp only [Act.put, List.setIfInBounds_toArray, List.set_cons_zero, List.set_cons_succ, i64_w, i32_w]
          rfl
        refine take_ (i := 7) (N := some 37) (v := ?_) (a' := ?_) #[true, true, true, true, true, true, true, true, false, false, false, false, false, false, false, false, false] rfl rfl (by kernel_rfl) (fun _ _ _ h => h) (Or.inl ⟨by rfl, ?_⟩) hHeld ?_ ?_
        rotate_left
        · rintro w' ⟨s0, s1, s2⟩
          go_simp
          with_reducible rfl
        rotate_left
        · simp only [Act.put, List.setIfInBounds_toArray, List.set_cons_zero, List.set_cons_succ, i64_w, i32_w]
          rfl
        refine pure_ (i := 8) (N := some 38) (v := ?_) (a' := ?_) #[true, true, true, true, true, true, true, true, true, false, false, false, false, false, false, false, false] rfl rfl (by kernel_rfl) (fun _ _ _ h => h) (Or.inl ⟨by rfl, ?_⟩) ?_ ?_
        rotate_left
        · intro w'
          go_simp
          with_reducible rfl
        rotate_left
        · simp only [Act.put, List.setIfInBounds_toArray, List.set_cons_zero, List.set_cons_succ, i64_w, i32_w]
          rfl
        refine pure_ (i := 9) (N := some 39) (v := ?_) (a' := ?_) #[true, true, true, true, true, true, true, true, true, true, false, false, false, false, false, false, false] rfl rfl (by kernel_rfl) (fun _ _ _ h => h) (Or.inl ⟨by rfl, ?_⟩) ?_ ?_
        rotate_left
        · intro w'
          go_simp
          with_reducible rfl
        rotate_left
        · simp only [Act.put, List.setIfInBounds_toArray, List.set_cons_zero, List.set_cons_succ, i64_w, i32_w]
          rfl
        refine pure_ (i := 10) (N := some 40) (v := ?_) (a' := ?_) #[true, true, true, true, true, true, true, true, true, true, true, false, false, false, false, false, false] rfl rfl (by kernel_rfl) (fun _ _ _ h => h) (Or.inl ⟨by rfl, ?_⟩) ?_ ?_
        rotate_left
        · intro w'
          go_simp
          with_reducible rfl
        rotate_left
        · simp only [Act.put, List.setIfInBounds_toArray, List.set_cons_zero, List.set_cons_succ, i64_w, i32_w]
          rfl
        refine take_ (i := 11) (N := some 41) (v := ?_) (a' := ?_) #[true, true, true, true, true, true, true, true, true, true, true, true, false, false, false, false, false] rfl rfl (by kernel_rfl) (fun _ _ _ h => h) (Or.inl ⟨by rfl, ?_⟩) hHeld ?_ ?_
        rotate_left
        · rintro w' ⟨s0, s1, s2⟩
          go_simp
          with_reducible rfl
        rotate_left
        · simp only [Act.put, List.setIfInBounds_toArray, List.set_cons_zero, List.set_cons_succ, i64_w, i32_w]
          rfl
        refine pure_ (i := 12) (N := some 42) (v := ?_) (a' := ?_) #[true, true, true, true, true, true, true, true, true, true, true, true, true, false, false, false, false] rfl rfl (by kernel_rfl) (fun _ _ _ h => h) (Or.inl ⟨by rfl, ?_⟩) ?_ ?_
        rotate_left
        · intro w'
          go_simp
          with_reducible rfl
        rotate_left
        · simp only [Act.put, List.setIfInBounds_toArray, List.set_cons_zero, List.set_cons_succ, i64_w, i32_w]
          rfl
        refine pure_ (i := 13) (N := some 43) (v := ?_) (a' := ?_) #[true, true, true, true, true, true, true, true, true, true, true, true, true, true, false, false, false] rfl rfl (by kernel_rfl) (fun _ _ _ h => h) (Or.inl ⟨by rfl, ?_⟩) ?_ ?_
        rotate_left
        · intro w'
          go_simp
          with_reducible rfl
        rotate_left
        · simp only [Act.put, List.setIfInBounds_toArray, List.set_cons_zero, List.set_cons_succ, i64_w, i32_w]
          rfl
        refine pure_ (i := 14) (N := some 44) (v := ?_) (a' := ?_) #[true, true, true, true, true, true, true, true, true, true, true, true, true, true, true, false, false] rfl rfl (by kernel_rfl) (fun _ _ _ h => h) (Or.inl ⟨by rfl, ?_⟩) ?_ ?_
        rotate_left
        · intro w'
          go_simp
          with_reducible rfl
        rotate_left
        · simp only [Act.put, List.setIfInBounds_toArray, List.set_cons_zero, List.set_cons_succ, i64_w, i32_w]
          rfl
        refine take_ (i := 15) (N := some 45) (v := ?_) (a' := ?_) #[true, true, true, true, true, true, true, true, true, true, true, true, true, true, true, true, false] rfl rfl (by kernel_rfl) (fun _ _ _ h => h) (Or.inl ⟨by rfl, ?_⟩) hHeld ?_ ?_
        rotate_left
        · rintro w' ⟨s0, s1, s2⟩
          go_simp
          with_reducible rfl
        rotate_left
        · simp only [Act.put, List.setIfInBounds_toArray, List.set_cons_zero, List.set_cons_succ, i64_w, i32_w]
          rfl
        refine pure_ (i := 16) (N := some 6) (v := ?_) (a' := ?_) #[true, true, true, true, true, true, true, true, true, true, true, true, true, true, true, true, true] rfl rfl (by kernel_rfl) (fun _ _ _ h => h) (Or.inl ⟨by rfl, ?_⟩) ?_ ?_
        rotate_left
        · intro w'
          go_simp
          with_reducible rfl
        rotate_left
        · simp only [Act.put, List.setIfInBounds_toArray, List.set_cons_zero, List.set_cons_succ, i64_w, i32_w]
          rfl
        refine done_ (by kernel_rfl) ?_
        have hcz3_1 := cellS37_1 HG3
        have hfz3_1 := blk_frozen HG3 1
        clear HG3
        go_wp2
        repeat (go_quiet (fail); try go_wp2)
        all_goals go_ret
        all_goals exact ⟨by rw [HRR.out]; rfl, by repeat (first | (with_reducible first | exact HI0.out | apply IsS37.drewN | apply IsS37.drew | apply IsS37.set_1 | apply IsS37.set_2) | exact HI0.out), by repeat (first | (with_reducible first | exact HB.out | apply below_alloc | apply pw_below_drewN | apply below_drew1 | refine below_set ?_ (IsS37.ge HI0.out)) | exact HB.out), by repeat (first | (with_reducible first | exact HK.out | apply KeepBut.set_ | apply keep_drewN | apply keep_drew | apply keep_alloc) | exact HK.out)⟩
    · rw [if_neg hc] at h2; cases h2
  · rw [if_pos hz] at h2
    have hzb : (t2 != 0) = true := bne_iff_ne.mpr hz
    simp only [Option.some.injEq, Prod.mk.injEq] at h2
    obtain ⟨rfl, rfl, rfl⟩ := h2
    clear HGz2
    go_wp2
    go_ret
    exact ⟨rfl, by repeat (first | (with_reducible first | exact HI0.out | apply IsS37.drewN | apply IsS37.drew | apply IsS37.set_1 | apply IsS37.set_2) | exact HI0.out), by repeat (first | (with_reducible first | exact HB.out | apply below_alloc | apply pw_below_drewN | apply below_drew1 | refine below_set ?_ (IsS37.ge HI0.out)) | exact HB.out), by repeat (first | (with_reducible first | exact HK.out | apply KeepBut.set_ | apply keep_drewN | apply keep_drew | apply keep_alloc) | exact HK.out)⟩

end Go.Proofs.Ytkmhanpamdgnjaa.P
