-- Written by a program of this session (wip/pp.py over the kit's printer, with our own texts put in).
import Derived.Test.YtejoofeigeoboaaP0
import Derived.Test.YtejoofeigeoboaaP4
namespace Go.Proofs.Ytejoofeigeoboaa.P
open Go.RowKit Go.Proofs.YtejoofeigeoboaaW.PrintWords Go.Proofs.YtejoofeigeoboaaW.PrintLast Go.Proofs.YtejoofeigeoboaaW.PrintMore
attribute [local go_sem] max2_int min2_int max_two min_two max_three min_three max_four min_four   -- for this text's walks alone
set_option linter.unusedVariables false
set_option linter.unusedSimpArgs false

/-! ### cenotaphref02_Union_t: function 29 -/
theorem zq29x_0 {p_ : Prop} (h_ : p_ := by (with_reducible repeat (first | refine blk_drewN ?_ _ | refine blk_drew ?_ | refine blk_alloc ?_ _)); refine blk_far ?_ NB435_436.out _; (with_reducible repeat (first | refine blk_drewN ?_ _ | refine blk_drew ?_ | refine blk_alloc ?_ _)); refine blk_far ?_ NB435_436.out _; (with_reducible repeat (first | refine blk_drewN ?_ _ | refine blk_drew ?_ | refine blk_alloc ?_ _)); refine blk_put (cs := #[.int .i64 a1_0, .slice A0_1 l0_1.length c0_1]) ?_ 1 _ rfl; (with_reducible repeat (first | refine blk_drewN ?_ _ | refine blk_drew ?_ | refine blk_alloc ?_ _)); refine blk_put (cs := #[.int .i64 a0_0, .slice A0_1 l0_1.length c0_1]) ?_ 0 _ rfl; (with_reducible repeat (first | refine blk_drewN ?_ _ | refine blk_drew ?_ | refine blk_alloc ?_ _)); exact BK435.out) : p_ := h_
theorem zq29x_1 {p_ : Prop} (h_ : p_ := by (with_reducible repeat (first | refine blk_drewN ?_ _ | refine blk_drew ?_ | refine blk_alloc ?_ _)); refine blk_put (cs := #[.int .i64 a0_0, .slice A1_1 l1_1.length c1_1]) ?_ 1 _ rfl; (with_reducible repeat (first | refine blk_drewN ?_ _ | refine blk_drew ?_ | refine blk_alloc ?_ _)); refine blk_put (cs := #[.int .i64 a1_0, .slice A1_1 l1_1.length c1_1]) ?_ 0 _ rfl; (with_reducible repeat (first | refine blk_drewN ?_ _ | refine blk_drew ?_ | refine blk_alloc ?_ _)); refine blk_far ?_ NB436_435.out _; (with_reducible repeat (first | refine blk_drewN ?_ _ | refine blk_drew ?_ | refine blk_alloc ?_ _)); refine blk_far ?_ NB436_435.out _; (with_reducible repeat (first | refine blk_drewN ?_ _ | refine blk_drew ?_ | refine blk_alloc ?_ _)); exact BK436.out) : p_ := h_
theorem zq29x_2 {p_ : Prop} (h_ : p_ := by (with_reducible repeat (first | refine blk_drewN ?_ _ | refine blk_drew ?_ | refine blk_alloc ?_ _)); refine blk_far ?_ NB437_436.out _; (with_reducible repeat (first | refine blk_drewN ?_ _ | refine blk_drew ?_ | refine blk_alloc ?_ _)); refine blk_far ?_ NB437_436.out _; (with_reducible repeat (first | refine blk_drewN ?_ _ | refine blk_drew ?_ | refine blk_alloc ?_ _)); refine blk_far ?_ NB437_435.out _; (with_reducible repeat (first | refine blk_drewN ?_ _ | refine blk_drew ?_ | refine blk_alloc ?_ _)); refine blk_far ?_ NB437_435.out _; (with_reducible repeat (first | refine blk_drewN ?_ _ | refine blk_drew ?_ | refine blk_alloc ?_ _)); exact BK437.out) : p_ := h_
theorem zq29x_3 {p_ : Prop} (h_ : p_ := by repeat (first | (with_reducible first | exact HB.out | apply below_alloc | apply pw_below_drewN | apply below_drew1 | refine below_set ?_ GE435.out | refine below_set ?_ GE436.out | refine below_set ?_ GE437.out | refine below_set ?_ GE438.out) | exact HB.out)) : p_ := h_
theorem zq29x_4 {p_ : Prop} (h_ : p_ := by repeat (first | (with_reducible first | exact HB.out | apply below_alloc | apply pw_below_drewN | apply below_drew1 | refine below_set ?_ GE435.out | refine below_set ?_ GE436.out | refine below_set ?_ GE437.out) | exact HB.out)) : p_ := h_
theorem zq29x_5 {p_ : Prop} (h_ : p_ := by repeat (first | (with_reducible first | exact HB.out | apply below_alloc | apply pw_below_drewN | apply below_drew1 | refine below_set ?_ GE435.out | refine below_set ?_ GE436.out) | exact HB.out)) : p_ := h_
theorem zq29x_6 {p_ : Prop} (h_ : p_ := by repeat (first | (with_reducible first | exact HB.out | apply below_alloc | apply pw_below_drewN | apply below_drew1 | refine below_set ?_ GE435.out) | exact HB.out)) : p_ := h_
theorem zq29x_7 {p_ : Prop} (h_ : p_ := by repeat (first | (with_reducible first | exact HB.out | apply below_alloc | apply pw_below_drewN | apply below_drew1) | exact HB.out)) : p_ := h_
theorem zq29x_8 {p_ : Prop} (h_ : p_ := by (with_reducible repeat (first | refine blk_drewN ?_ _ | refine blk_drew ?_ | refine blk_alloc ?_ _)); exact BK435.out) : p_ := h_
theorem zq29x_9 {p_ : Prop} (h_ : p_ := by (with_reducible repeat (first | refine blk_drewN ?_ _ | refine blk_drew ?_ | refine blk_alloc ?_ _)); exact BK436.out) : p_ := h_
theorem zq29x_10 {p_ : Prop} (h_ : p_ := by (with_reducible repeat (first | apply Kd.R_alloc | apply Kd.R_drewN | apply Kd.R_drew)); exact HO_439001.out) : p_ := h_
theorem zq29x_11 {p_ : Prop} (h_ : p_ := by first | (with_reducible assumption) | assumption) : p_ := h_
theorem zq29x_12 {p_ : Prop} (h_ : p_ := by first | rfl | (simp; done) | (simp [*]; done)) : p_ := h_
mutual
def cenotaphref02_Union_t.l0 : Nat → Int → Int → List Int → Int → List Int → Int → List Int → Option (Int × List Int)
 | 0, _, _, _, _, _, _, _ => none
 | k + 1, x6, x436000, x436001, x437000, x437001, x439000, x439001 => if x6 < (x436001.length : Int) then (if 0 ≤ x6 then ((cenotaphref02_Add.f k x439000 x439001 (rd x436001 x6)).bind fun bt440 => (cenotaphref02_Union_t.l0 k (wrap64 (x6 + 1)) x436000 x436001 x437000 x437001 bt440.1 bt440.2)) else (none)) else (cenotaphref02_Union_t.l1 k 0 x437000 x437001 x439000 x439001)
def cenotaphref02_Union_t.l1 : Nat → Int → Int → List Int → Int → List Int → Option (Int × List Int)
 | 0, _, _, _, _, _ => none
 | k + 1, x7, x437000, x437001, x439000, x439001 => if x7 < (x437001.length : Int) then (if 0 ≤ x7 then ((cenotaphref02_Add.f k x439000 x439001 (rd x437001 x7)).bind fun bt445 => (cenotaphref02_Union_t.l1 k (wrap64 (x7 + 1)) x437000 x437001 bt445.1 bt445.2)) else (none)) else (some (x439000, x439001))
end
def cenotaphref02_Union_t.f (k : Nat) (a0_0 : Int) (l0_1 : List Int) (a1_0 : Int) (l1_1 : List Int) : Option (Int × List Int) := if a1_0 > a0_0 then (cenotaphref02_Union_t.l0 k 0 a1_0 l1_1 a0_0 l0_1 a1_0 ([] : List Int)) else (none)
theorem cenotaphref02_Union_t.mono_l : ∀ k, (∀ y0 y1 y2 y3 y4 y5 y6, LeO (cenotaphref02_Union_t.l0 k y0 y1 y2 y3 y4 y5 y6) (cenotaphref02_Union_t.l0 (k + 1) y0 y1 y2 y3 y4 y5 y6)) ∧ (∀ y0 y1 y2 y3 y4, LeO (cenotaphref02_Union_t.l1 k y0 y1 y2 y3 y4) (cenotaphref02_Union_t.l1 (k + 1) y0 y1 y2 y3 y4))
 | 0 => ⟨fun _ _ _ _ _ _ _ r h => by simp [cenotaphref02_Union_t.l0] at h, fun _ _ _ _ _ r h => by simp [cenotaphref02_Union_t.l1] at h⟩
 | k + 1 => by
  obtain ⟨ih0, ih1⟩ := cenotaphref02_Union_t.mono_l k
  refine ⟨?_, ?_⟩
  ·intro y0 y1 y2 y3 y4 y5 y6
   unfold cenotaphref02_Union_t.l0
   repeat' first
   | (with_reducible exact ih0 _ _ _ _ _ _ _)
   | (with_reducible exact ih1 _ _ _ _ _)
   | (with_reducible exact cenotaphref02_Add.mono _ _ _ _)
   | (with_reducible exact LeO.refl _)
   | (with_reducible exact LeO.none _)
   | (with_reducible refine LeO.ite ?_ ?_)
   | (with_reducible refine LeO.bind ?_ (fun _ => ?_))
   | exact ih0 _ _ _ _ _ _ _
   | exact ih1 _ _ _ _ _
   | exact cenotaphref02_Add.mono _ _ _ _
   | exact LeO.none _
   | refine LeO.ite ?_ ?_
   | refine LeO.bind ?_ (fun _ => ?_)
  ·intro y0 y1 y2 y3 y4
   unfold cenotaphref02_Union_t.l1
   repeat' first
   | (with_reducible exact ih0 _ _ _ _ _ _ _)
   | (with_reducible exact ih1 _ _ _ _ _)
   | (with_reducible exact cenotaphref02_Add.mono _ _ _ _)
   | (with_reducible exact LeO.refl _)
   | (with_reducible exact LeO.none _)
   | (with_reducible refine LeO.ite ?_ ?_)
   | (with_reducible refine LeO.bind ?_ (fun _ => ?_))
   | exact ih0 _ _ _ _ _ _ _
   | exact ih1 _ _ _ _ _
   | exact cenotaphref02_Add.mono _ _ _ _
   | exact LeO.none _
   | refine LeO.ite ?_ ?_
   | refine LeO.bind ?_ (fun _ => ?_)
theorem cenotaphref02_Union_t.mono : ∀ a0 a1 a2 a3 k, LeO (cenotaphref02_Union_t.f k a0 a1 a2 a3) (cenotaphref02_Union_t.f (k + 1) a0 a1 a2 a3) := by
 intro a0 a1 a2 a3 k
 obtain ⟨ih0, ih1⟩ := cenotaphref02_Union_t.mono_l k
 unfold cenotaphref02_Union_t.f
 repeat' first
   | (with_reducible exact ih0 _ _ _ _ _ _ _)
   | (with_reducible exact ih1 _ _ _ _ _)
   | (with_reducible exact cenotaphref02_Add.mono _ _ _ _)
   | (with_reducible exact LeO.refl _)
   | (with_reducible exact LeO.none _)
   | (with_reducible refine LeO.ite ?_ ?_)
   | (with_reducible refine LeO.bind ?_ (fun _ => ?_))
   | exact ih0 _ _ _ _ _ _ _
   | exact ih1 _ _ _ _ _
   | exact cenotaphref02_Add.mono _ _ _ _
   | exact LeO.none _
   | refine LeO.ite ?_ ?_
   | refine LeO.bind ?_ (fun _ => ?_)
def cenotaphref02_Union_t.T7 : Bool × List (List Nat × List Nat) := (true, [([], []), ([], []), ([1], [1]), ([], []), ([2, 3], [2, 3]), ([4], [4]), ([0, 5], [0, 5]), ([6, 6, 0, 1, 2, 3, 4, 5, 6], [6])])
def cenotaphref02_Union_t.B7 : List Nat := [0, 0, 2, 0, 14, 30, 63, 127]
theorem cenotaphref02_Union_t.tab7 : rtab .any (opsOf Try.f29 7) = cenotaphref02_Union_t.T7 := by kernel_rfl
theorem cenotaphref02_Union_t.bits7 : waitsOk cenotaphref02_Union_t.T7.2 cenotaphref02_Union_t.B7 = true := by kernel_rfl
def cenotaphref02_Union_t.T11 : Bool × List (List Nat × List Nat) := (true, [([], []), ([], []), ([1], [1]), ([], []), ([2, 3], [2, 3]), ([4], [4]), ([0, 5], [0, 5]), ([6, 6, 0, 1, 2, 3, 4, 5, 6], [6])])
def cenotaphref02_Union_t.B11 : List Nat := [0, 0, 2, 0, 14, 30, 63, 127]
theorem cenotaphref02_Union_t.tab11 : rtab .any (opsOf Try.f29 11) = cenotaphref02_Union_t.T11 := by kernel_rfl
theorem cenotaphref02_Union_t.bits11 : waitsOk cenotaphref02_Union_t.T11.2 cenotaphref02_Union_t.B11 = true := by kernel_rfl
set_option maxHeartbeats 8000000 in
set_option maxRecDepth 100000 in
theorem cenotaphref02_Union_t.calls (k : Nat) (a0_0 : Int) (A0_1 : Option Addr) (c0_1 : Nat) (l0_1 : List Int) (a1_0 : Int) (A1_1 : Option Addr) (c1_1 : Nat) (l1_1 : List Int) (r1 : Int) (r2 : List Int) (w : World) (hr0_1 : Kd.C (Kd.int .i64) w A0_1 l0_1.length l0_1) (hc0_1 : l0_1.length ≤ c0_1) (hr1_1 : Kd.C (Kd.int .i64) w A1_1 l1_1.length l1_1) (hc1_1 : l1_1.length ≤ c1_1) (h : cenotaphref02_Union_t.f k a0_0 l0_1 a1_0 l1_1 = some (r1, r2)) :
  Calls Try.prog 29 #[.agg #[.int .i64 a0_0, .slice A0_1 l0_1.length c0_1], .agg #[.int .i64 a1_0, .slice A1_1 l1_1.length c1_1]] w fun e w' => ∃ v1_ : Value, e = .returned (.agg #[.int .i64 r1, v1_]) ∧ Kd.R (Kd.int .i64) 3 w' w.heap.size (fun _ => True) v1_ r2 ∧ Below w.heap.size w w' := by
 have hu30 := Try.underlying30
 have HR0_1 := Aside0.mk hr0_1
 have HC0_1 := Aside0.mk hc0_1
 clear hr0_1 hc0_1
 have HR1_1 := Aside0.mk hr1_1
 have HC1_1 := Aside0.mk hc1_1
 clear hr1_1 hc1_1
 have HB := Aside0.mk (Below.refl w.heap.size w)
 have H : (if a1_0 > a0_0 then (cenotaphref02_Union_t.l0 k 0 a1_0 l1_1 a0_0 l0_1 a1_0 ([] : List Int)) else (none)) = some (r1, r2) := h
 clear h
 by_cases c3 : a1_0 > a0_0
 ·rw [if_pos c3] at H
  have c3b0 : decide (a0_0 < a1_0) = true := decide_eq_true c3
  clear c3
  have H' := Aside0.mk H
  clear H
  go_enter Try.func29, Try.ntmps29
  go_wp2_with (first | ((with_reducible refine gate_dst (N := 2) rfl ?_); refine box_event ?hg (N := 2) ?hd (cs := #[.int .i64 a0_0, .slice A0_1 l0_1.length c0_1]) (t := 30) ?hr ?_; (case hd => rfl); (case hg => rfl); (case hr => first | (go_simp; done) | (go_simp; rfl)); intro gb435 hg w4 hbox hb; have n0_ := Aside0.mk (below_step zq29x_7 hb); have n1_ := Aside0.mk (hbox); have n2_ := Aside0.mk (((by rw [hg]; exact (below_size zq29x_7)) : w.heap.size ≤ gb435)); have n3_ := Aside0.mk (((by rw [hg]; exact (below_size zq29x_7)) : w.heap.size ≤ gb435)); clear HB; have HB := n0_; have BK435 := n1_; have GW435 := n2_; have GE435 := n3_; clear n0_ n1_ n2_ n3_; clear hb hbox hg) | ((with_reducible refine gate_dst (N := 3) rfl ?_); refine box_event ?hg (N := 3) ?hd (cs := #[.int .i64 a1_0, .slice A1_1 l1_1.length c1_1]) (t := 30) ?hr ?_; (case hd => rfl); (case hg => rfl); (case hr => first | (go_simp; done) | (go_simp; rfl)); intro gb436 hg w5 hbox hb; have n0_ := Aside0.mk (blk_below (g := gb435) (o := .cells #[.int .i64 a0_0, .slice A0_1 l0_1.length c0_1] 30 (0, 0)) zq29x_8 hb); have n1_ := Aside0.mk (below_step zq29x_6 hb); have n2_ := Aside0.mk (hbox); have n3_ := Aside0.mk (((by rw [hg]; exact (below_size zq29x_6)) : w.heap.size ≤ gb436)); have n4_ := Aside0.mk (((by rw [hg]; exact (below_size zq29x_6)) : w.heap.size ≤ gb436)); have n5_ := Aside0.mk (((by rw [hg]; exact Nat.ne_of_lt (blk_lt (g := gb435) (o := .cells #[.int .i64 a0_0, .slice A0_1 l0_1.length c0_1] 30 (0, 0)) zq29x_8)) : gb435 ≠ gb436)); have n6_ := Aside0.mk (((by rw [hg]; exact Nat.ne_of_gt (blk_lt (g := gb435) (o := .cells #[.int .i64 a0_0, .slice A0_1 l0_1.length c0_1] 30 (0, 0)) zq29x_8)) : gb436 ≠ gb435)); clear BK435; clear HB; have BK435 := n0_; have HB := n1_; have BK436 := n2_; have GW436 := n3_; have GE436 := n4_; have NB435_436 := n5_; have NB436_435 := n6_; clear n0_ n1_ n2_ n3_ n4_ n5_ n6_; clear hb hbox hg) | ((with_reducible refine gate_dst (N := 4) rfl ?_); refine box_event ?hg (N := 4) ?hd (cs := #[.int .i64 0, .slice none 0 0]) (t := 30) ?hr ?_; (case hd => rfl); (case hg => rfl); (case hr => first | (go_simp; done) | (go_simp; rfl)); intro gb437 hg w6 hbox hb; have n0_ := Aside0.mk (blk_below (g := gb435) (o := .cells #[.int .i64 a0_0, .slice A0_1 l0_1.length c0_1] 30 (0, 0)) zq29x_8 hb); have n1_ := Aside0.mk (blk_below (g := gb436) (o := .cells #[.int .i64 a1_0, .slice A1_1 l1_1.length c1_1] 30 (0, 0)) zq29x_9 hb); have n2_ := Aside0.mk (below_step zq29x_5 hb); have n3_ := Aside0.mk (hbox); have n4_ := Aside0.mk (((by rw [hg]; exact (below_size zq29x_5)) : w.heap.size ≤ gb437)); have n5_ := Aside0.mk (((by rw [hg]; exact (below_size zq29x_5)) : w.heap.size ≤ gb437)); have n6_ := Aside0.mk (((by rw [hg]; exact Nat.ne_of_lt (blk_lt (g := gb435) (o := .cells #[.int .i64 a0_0, .slice A0_1 l0_1.length c0_1] 30 (0, 0)) zq29x_8)) : gb435 ≠ gb437)); have n7_ := Aside0.mk (((by rw [hg]; exact Nat.ne_of_gt (blk_lt (g := gb435) (o := .cells #[.int .i64 a0_0, .slice A0_1 l0_1.length c0_1] 30 (0, 0)) zq29x_8)) : gb437 ≠ gb435)); have n8_ := Aside0.mk (((by rw [hg]; exact Nat.ne_of_lt (blk_lt (g := gb436) (o := .cells #[.int .i64 a1_0, .slice A1_1 l1_1.length c1_1] 30 (0, 0)) zq29x_9)) : gb436 ≠ gb437)); have n9_ := Aside0.mk (((by rw [hg]; exact Nat.ne_of_gt (blk_lt (g := gb436) (o := .cells #[.int .i64 a1_0, .slice A1_1 l1_1.length c1_1] 30 (0, 0)) zq29x_9)) : gb437 ≠ gb436)); clear BK435; clear BK436; clear HB; have BK435 := n0_; have BK436 := n1_; have HB := n2_; have BK437 := n3_; have GW437 := n4_; have GE437 := n5_; have NB435_437 := n6_; have NB437_435 := n7_; have NB436_437 := n8_; have NB437_436 := n9_; clear n0_ n1_ n2_ n3_ n4_ n5_ n6_ n7_ n8_ n9_; clear hb hbox hg; have hnb7 := NB436_435.out; have hnc7 := NB435_436.out; have hnb8 := NB436_437.out; have hnc8 := NB437_436.out; have hcz9_0 : w6.cell? ⟨gb436, 0, none⟩ = some (.int .i64 a1_0) := (blk_cell BK436.out 0).trans rfl; have hcz9_1 : w6.cell? ⟨gb436, 1, none⟩ = some (.slice A1_1 l1_1.length c1_1) := (blk_cell BK436.out 1).trans rfl; have hfz9_0 := blk_frozen BK436.out 0; have hfz9_1 := blk_frozen BK436.out 1; have hnb10 := NB435_437.out; have hnc10 := NB437_435.out; have hcz11_0 : w6.cell? ⟨gb435, 0, none⟩ = some (.int .i64 a0_0) := (blk_cell BK435.out 0).trans rfl; have hcz11_1 : w6.cell? ⟨gb435, 1, none⟩ = some (.slice A0_1 l0_1.length c0_1) := (blk_cell BK435.out 1).trans rfl; have hfz11_0 := blk_frozen BK435.out 0; have hfz11_1 := blk_frozen BK435.out 1) | ((with_reducible refine gate_dst (N := 5) rfl ?_); refine box_event ?hg (N := 5) ?hd (cs := #[.int .i64 0, .slice none 0 0]) (t := 30) ?hr ?_; (case hd => rfl); (case hg => rfl); (case hr => first | (go_simp; done) | (go_simp; rfl)); intro gb438 hg w12 hbox hb; have n0_ := Aside0.mk (blk_below (g := gb435) (o := .cells #[.int .i64 a1_0, .slice A1_1 l1_1.length c1_1] 30 (0, 0)) zq29x_0 hb); have n1_ := Aside0.mk (blk_below (g := gb436) (o := .cells #[.int .i64 a0_0, .slice A0_1 l0_1.length c0_1] 30 (0, 0)) zq29x_1 hb); have n2_ := Aside0.mk (blk_below (g := gb437) (o := .cells #[.int .i64 0, .slice none 0 0] 30 (0, 0)) zq29x_2 hb); have n3_ := Aside0.mk (below_step zq29x_4 hb); have n4_ := Aside0.mk (hbox); have n5_ := Aside0.mk (((by rw [hg]; exact (below_size zq29x_4)) : w.heap.size ≤ gb438)); have n6_ := Aside0.mk (((by rw [hg]; exact (below_size zq29x_4)) : w.heap.size ≤ gb438)); have n7_ := Aside0.mk (((by rw [hg]; exact Nat.ne_of_lt (blk_lt (g := gb435) (o := .cells #[.int .i64 a1_0, .slice A1_1 l1_1.length c1_1] 30 (0, 0)) zq29x_0)) : gb435 ≠ gb438)); have n8_ := Aside0.mk (((by rw [hg]; exact Nat.ne_of_gt (blk_lt (g := gb435) (o := .cells #[.int .i64 a1_0, .slice A1_1 l1_1.length c1_1] 30 (0, 0)) zq29x_0)) : gb438 ≠ gb435)); have n9_ := Aside0.mk (((by rw [hg]; exact Nat.ne_of_lt (blk_lt (g := gb436) (o := .cells #[.int .i64 a0_0, .slice A0_1 l0_1.length c0_1] 30 (0, 0)) zq29x_1)) : gb436 ≠ gb438)); have n10_ := Aside0.mk (((by rw [hg]; exact Nat.ne_of_gt (blk_lt (g := gb436) (o := .cells #[.int .i64 a0_0, .slice A0_1 l0_1.length c0_1] 30 (0, 0)) zq29x_1)) : gb438 ≠ gb436)); have n11_ := Aside0.mk (((by rw [hg]; exact Nat.ne_of_lt (blk_lt (g := gb437) (o := .cells #[.int .i64 0, .slice none 0 0] 30 (0, 0)) zq29x_2)) : gb437 ≠ gb438)); have n12_ := Aside0.mk (((by rw [hg]; exact Nat.ne_of_gt (blk_lt (g := gb437) (o := .cells #[.int .i64 0, .slice none 0 0] 30 (0, 0)) zq29x_2)) : gb438 ≠ gb437)); clear BK435; clear BK436; clear BK437; clear HB; have BK435 := n0_; have BK436 := n1_; have BK437 := n2_; have HB := n3_; have BK438 := n4_; have GW438 := n5_; have GE438 := n6_; have NB435_438 := n7_; have NB438_435 := n8_; have NB436_438 := n9_; have NB438_436 := n10_; have NB437_438 := n11_; have NB438_437 := n12_; clear n0_ n1_ n2_ n3_ n4_ n5_ n6_ n7_ n8_ n9_ n10_ n11_ n12_; clear hb hbox hg; have hnb13 := NB438_435.out; have hnc13 := NB435_438.out; have hnb14 := NB438_436.out; have hnc14 := NB436_438.out; have hnb15 := NB438_437.out; have hnc15 := NB437_438.out; have hcz16_0 : w12.cell? ⟨gb438, 0, none⟩ = some (.int .i64 0) := (blk_cell BK438.out 0).trans rfl; have hcz16_1 : w12.cell? ⟨gb438, 1, none⟩ = some (.slice none 0 0) := (blk_cell BK438.out 1).trans rfl; have hfz16_0 := blk_frozen BK438.out 0; have hfz16_1 := blk_frozen BK438.out 1))
  go_loopg [6] k (fun kq v6 w' => ∃ (x6_1 : Int) (x439000_1 : Int) (x439001_1 : List Int) (u439001 : Value), v6 = .int .i64 x6_1 ∧ Aside0 (cenotaphref02_Union_t.l0 kq x6_1 a1_0 l1_1 a0_0 l0_1 x439000_1 x439001_1 = some (r1, r2)) ∧ Aside0 (kq ≤ k) ∧ Aside0 (Kd.R (Kd.int .i64) 3 w' w.heap.size (fun _ => True) u439001 x439001_1) ∧ Aside0 (w'.heap[gb435]? = some (.cells #[.int .i64 a1_0, (.slice A1_1 l1_1.length c1_1)] 30 (0, 0))) ∧ Aside0 (w'.heap[gb436]? = some (.cells #[.int .i64 a0_0, (.slice A0_1 l0_1.length c0_1)] 30 (0, 0))) ∧ Aside0 (w'.heap[gb437]? = some (.cells #[.int .i64 0, (.slice none 0 0)] 30 (0, 0))) ∧ Aside0 (w'.heap[gb438]? = some (.cells #[.int .i64 x439000_1, u439001] 30 (0, 0))) ∧ Aside0 (Below w.heap.size w w'))
  case atStart => exact ⟨(0), (a1_0), (([] : List Int)), (.slice none 0 0), zq29x_12, H', ⟨Nat.le_refl _⟩, ⟨by first | exact Kd.R_nil _ _ _ _ _ | exact Kd.N_nil _ _ _ _ _ | exact Kd.V_nil _ _ _ _ _ | exact Kd.Q_nil _ _ _ _ _ | exact Kd.S_nil _ _ _ _ _⟩, ⟨by (with_reducible repeat (first | refine blk_drewN ?_ _ | refine blk_drew ?_ | refine blk_alloc ?_ _)); refine blk_far ?_ NB435_438.out _; (with_reducible repeat (first | refine blk_drewN ?_ _ | refine blk_drew ?_ | refine blk_alloc ?_ _)); refine blk_far ?_ NB435_438.out _; (with_reducible repeat (first | refine blk_drewN ?_ _ | refine blk_drew ?_ | refine blk_alloc ?_ _)); exact BK435.out⟩, ⟨by (with_reducible repeat (first | refine blk_drewN ?_ _ | refine blk_drew ?_ | refine blk_alloc ?_ _)); refine blk_far ?_ NB436_438.out _; (with_reducible repeat (first | refine blk_drewN ?_ _ | refine blk_drew ?_ | refine blk_alloc ?_ _)); refine blk_far ?_ NB436_438.out _; (with_reducible repeat (first | refine blk_drewN ?_ _ | refine blk_drew ?_ | refine blk_alloc ?_ _)); exact BK436.out⟩, ⟨by (with_reducible repeat (first | refine blk_drewN ?_ _ | refine blk_drew ?_ | refine blk_alloc ?_ _)); refine blk_far ?_ NB437_438.out _; (with_reducible repeat (first | refine blk_drewN ?_ _ | refine blk_drew ?_ | refine blk_alloc ?_ _)); refine blk_far ?_ NB437_438.out _; (with_reducible repeat (first | refine blk_drewN ?_ _ | refine blk_drew ?_ | refine blk_alloc ?_ _)); exact BK437.out⟩, ⟨by (with_reducible repeat (first | refine blk_drewN ?_ _ | refine blk_drew ?_ | refine blk_alloc ?_ _)); refine blk_put (cs := #[.int .i64 a1_0, .slice none 0 0]) ?_ 1 _ rfl; (with_reducible repeat (first | refine blk_drewN ?_ _ | refine blk_drew ?_ | refine blk_alloc ?_ _)); refine blk_put (cs := #[.int .i64 0, .slice none 0 0]) ?_ 0 _ rfl; (with_reducible repeat (first | refine blk_drewN ?_ _ | refine blk_drew ?_ | refine blk_alloc ?_ _)); exact BK438.out⟩, ⟨by repeat (first | (with_reducible first | exact HB.out | apply below_alloc | apply pw_below_drewN | apply below_drew1 | refine below_set ?_ GE435.out | refine below_set ?_ GE436.out | refine below_set ?_ GE437.out | refine below_set ?_ GE438.out) | exact HB.out)⟩⟩
  case round =>
   clear H'
   try clear c1
   try clear c2
   try clear p2
   try clear c3
   try clear c3b0
   try clear c7
   try clear c8
   try clear c10
   try clear c13
   try clear c14
   try clear c15
   try clear hcz11_0
   try clear hcz11_1
   try clear hcz16_0
   try clear hcz16_1
   try clear hcz9_0
   try clear hcz9_1
   try clear hfz11_0
   try clear hfz11_1
   try clear hfz16_0
   try clear hfz16_1
   try clear hfz9_0
   try clear hfz9_1
   obtain ⟨x6_1, x439000_1, x439001_1, u439001, rfl, HA, HK1, HO_439001, BK435, BK436, BK437, BK438, HB⟩ := hrel
   cases gk with
   | zero => exact absurd HA.out (by simp [cenotaphref02_Union_t.l0])
   | succ k1 =>
    have H := HA.out
    clear HA
    simp only [cenotaphref02_Union_t.l0] at H
    by_cases c17 : x6_1 < (l1_1.length : Int)
    ·rw [if_pos c17] at H
     have c17b0 : decide (x6_1 < (l1_1.length : Int)) = true := decide_eq_true c17
     clear c17
     by_cases c18 : 0 ≤ x6_1
     ·rw [if_pos c18] at H
      have c18b0 : decide (0 ≤ x6_1) = true := decide_eq_true c18
      clear c18
      replace H := Option.bind_eq_some_iff.mp H
      obtain ⟨⟨t440, t441⟩, A190, H⟩ := H
      replace H : (cenotaphref02_Union_t.l0 k1 (wrap64 (x6_1 + 1)) a1_0 l1_1 a0_0 l0_1 t440 t441) = some (r1, r2) := H
      have A19 := Aside0.mk A190
      clear A190
      have H' := Aside0.mk H
      clear H
      have hnb20 := NB435_436.out
      have hnc20 := NB436_435.out
      have hnb21 := NB435_437.out
      have hnc21 := NB437_435.out
      have hnb22 := NB435_438.out
      have hnc22 := NB438_435.out
      have hcz23_0 : wr.cell? ⟨gb435, 0, none⟩ = some (.int .i64 a1_0) := (blk_cell BK435.out 0).trans rfl
      have hcz23_1 : wr.cell? ⟨gb435, 1, none⟩ = some (.slice A1_1 l1_1.length c1_1) := (blk_cell BK435.out 1).trans rfl
      have hfz23_0 := blk_frozen BK435.out 0
      have hfz23_1 := blk_frozen BK435.out 1
      try go_wp2
      replace HO_439001 := Aside0.mk (Kd.R_drew HO_439001.out)
      replace BK435 := Aside0.mk (blk_drew BK435.out)
      replace BK436 := Aside0.mk (blk_drew BK436.out)
      replace BK437 := Aside0.mk (blk_drew BK437.out)
      replace BK438 := Aside0.mk (blk_drew BK438.out)
      replace HB := Aside0.mk (below_drew1 HB.out)
      have p439 : 0 ≤ (x6_1 : Int) := of_decide_eq_true zq29x_11
      have q439 : x6_1 < (l1_1.length : Int) := of_decide_eq_true zq29x_11
      obtain ⟨ad439, e439, hx439_0⟩ := Kd.at_int HR1_1.out x6_1 p439 q439
      have hw439_0 := hx439_0
      cases e439
      replace hx439_0 := (HB.out.cell (World.block_lt_of_cell? w _ hx439_0)).trans hx439_0
      replace p439 := eq_true p439
      replace q439 := eq_true q439
      obtain ⟨Ao25, co25, eo25⟩ := Kd.R_slice HO_439001.out
      (first | subst eo25 | (injection eo25 with f1_ f2_ f3_; have f4_ := f1_.symm; have f5_ := f3_.symm; clear f1_ f2_ f3_; subst f4_; subst f5_))
      refine start_ (n := 8) (S := fun w' => w'.cell? ⟨gb438, 0, none⟩ = some (.int .i64 x439000_1) ∧ w'.cell? ⟨gb438, 1, none⟩ = some (.slice Ao25 x439001_1.length co25) ∧ w'.cell? ⟨gb435, 0, none⟩ = some (.int .i64 a1_0) ∧ w'.cell? ⟨gb435, 1, none⟩ = some (.slice (some ad439) l1_1.length c1_1) ∧ w'.cell? (ad439.add (x6_1).toNat) = some (.int .i64 (rd l1_1 x6_1))) (ds := [7]) #[false, false, false, false, false, false, false, false] (by kernel_rfl) rfl rfl ⟨(blk_cell BK438.out 0).trans rfl, (blk_cell BK438.out 1).trans rfl, (blk_cell BK435.out 0).trans rfl, (blk_cell BK435.out 1).trans rfl, ((HB.out.cell (World.block_lt_of_cell? w _ hw439_0)).trans hw439_0)⟩ (fun hHeld => ?_); refine with_tabW cenotaphref02_Union_t.tab7 cenotaphref02_Union_t.bits7 (fun HT_ HW_ => ?_)
      generalize wr.drew = w24 at HO_439001 BK435 BK436 BK437 BK438 HB hx439_0 hHeld ⊢
      refine pure_ (i := 1) (N := some 26) (v := ?_) (a' := ?_) #[false, true, false, false, false, false, false, false] rfl rfl (any_of HT_.out (by kernel_rfl)) (fun _ _ _ h => h) (Or.inl ⟨by rfl, ?_⟩) ?_ ?_
      rotate_left
      ·intro w'
       go_simp
       with_reducible rfl
      rotate_left
      ·simp only [Act.put, List.setIfInBounds_toArray, List.set_cons_zero, List.set_cons_succ, i64_w, i32_w]
       rfl
      refine pure_ (i := 3) (N := some 28) (v := ?_) (a' := ?_) #[false, true, false, true, false, false, false, false] rfl rfl (any_of HT_.out (by kernel_rfl)) (fun _ _ _ h => h) (Or.inl ⟨by rfl, ?_⟩) ?_ ?_
      rotate_left
      ·intro w'
       go_simp
       with_reducible rfl
      rotate_left
      ·simp only [Act.put, List.setIfInBounds_toArray, List.set_cons_zero, List.set_cons_succ, i64_w, i32_w]
       rfl
      refine take_ (i := 0) (N := some 25) (v := ?_) (a' := ?_) #[true, true, false, true, false, false, false, false] rfl rfl (take_ofW HT_.out HW_.out (by kernel_rfl)) (fun _ _ _ h => h) (Or.inl ⟨by rfl, ?_⟩) hHeld ?_ ?_
      rotate_left
      ·rintro w' ⟨s0, s1, s2, s3, s4⟩
       go_simp
       with_reducible rfl
      rotate_left
      ·simp only [Act.put, List.setIfInBounds_toArray, List.set_cons_zero, List.set_cons_succ, i64_w, i32_w]
       rfl
      refine take_ (i := 2) (N := some 27) (v := ?_) (a' := ?_) #[true, true, true, true, false, false, false, false] rfl rfl (take_ofW HT_.out HW_.out (by kernel_rfl)) (fun _ _ _ h => h) (Or.inl ⟨by rfl, ?_⟩) hHeld ?_ ?_
      rotate_left
      ·rintro w' ⟨s0, s1, s2, s3, s4⟩
       go_simp
       with_reducible rfl
      rotate_left
      ·simp only [Act.put, List.setIfInBounds_toArray, List.set_cons_zero, List.set_cons_succ, i64_w, i32_w]
       rfl
      refine pure_ (i := 4) (N := some 29) (v := ?_) (a' := ?_) #[true, true, true, true, true, false, false, false] rfl rfl (any_of HT_.out (by kernel_rfl)) (fun _ _ _ h => h) (Or.inl ⟨by rfl, ?_⟩) ?_ ?_
      rotate_left
      ·intro w'
       go_simp
       with_reducible rfl
      rotate_left
      ·simp only [Act.put, List.setIfInBounds_toArray, List.set_cons_zero, List.set_cons_succ, i64_w, i32_w]
       rfl
      refine take_ (i := 5) (N := some 30) (v := ?_) (a' := ?_) #[true, true, true, true, true, true, false, false] rfl rfl (take_ofW HT_.out HW_.out (by kernel_rfl)) (fun _ _ _ h => h) (Or.inl ⟨by rfl, ?_⟩) hHeld ?_ ?_
      rotate_left
      ·rintro w' ⟨s0, s1, s2, s3, s4⟩
       go_simp
       with_reducible rfl
      rotate_left
      ·simp only [Act.put, List.setIfInBounds_toArray, List.set_cons_zero, List.set_cons_succ, i64_w, i32_w]
       rfl
      refine one_ (i := 6) (N := some 31) #[true, true, true, true, true, true, true, false] rfl rfl (one_of HT_.out (by kernel_rfl)) (by decide) (fun K hK => ?_)
      refine goes_ Try.func19 (by kernel_rfl) rfl #[.agg #[.int .i64 x439000_1, .slice Ao25 x439001_1.length co25], .int .i64 (rd l1_1 x6_1)] (by rfl) rfl rfl (by (try simp only [List.map_toArray, List.map_cons, List.map_nil]); first | done | rfl | (simp only [List.length_drop, List.length_take]; rfl)) ?_
      with_reducible refine (cenotaphref02_Add.calls k1 x439000_1 _ _ x439001_1 (rd l1_1 x6_1) t440 t441 _ ?side1 ?side2 A19.out).mono ?_
      (case side1 => repeat (first | exact (Kd.R_reads' HO_439001.out).2.2 | (with_reducible refine Kd.C_alloc ?_ _) | (with_reducible refine Kd.C_drewN ?_ _) | (with_reducible refine Kd.C_drew ?_)))
      (case side2 => exact (Kd.R_reads' HO_439001.out).2.1)
      rintro e w26 ⟨v442, rfl, ho0, hb⟩
      refine ⟨_, rfl, ?_⟩
      have HO443 := Aside0.mk (Kd.R_lower (Kd.R_new' ho0 (Kd.R_lt zq29x_10)) (below_size zq29x_3))
      replace HO_439001 := Aside0.mk (Kd.R_elder' zq29x_10 (Kd.R_base ho0) hb)
      replace BK435 := Aside0.mk (blk_below (g := gb435) (o := .cells #[.int .i64 a1_0, .slice (some ad439) l1_1.length c1_1] 30 (0, 0)) zq29x_8 hb)
      replace BK436 := Aside0.mk (blk_below (g := gb436) (o := .cells #[.int .i64 a0_0, .slice A0_1 l0_1.length c0_1] 30 (0, 0)) zq29x_9 hb)
      replace BK437 := Aside0.mk (blk_below (g := gb437) (o := .cells #[.int .i64 0, .slice none 0 0] 30 (0, 0)) (by (with_reducible repeat (first | refine blk_drewN ?_ _ | refine blk_drew ?_ | refine blk_alloc ?_ _)); exact BK437.out) hb)
      replace BK438 := Aside0.mk (blk_below (g := gb438) (o := .cells #[.int .i64 x439000_1, .slice Ao25 x439001_1.length co25] 30 (0, 0)) (by (with_reducible repeat (first | refine blk_drewN ?_ _ | refine blk_drew ?_ | refine blk_alloc ?_ _)); exact BK438.out) hb)
      replace HB := Aside0.mk (below_step zq29x_3 hb)
      (try clear hb)
      (try clear hb2)
      (try clear hk)
      (try clear hi)
      (try clear ho0)
      obtain ⟨Ao28, co28, eo28⟩ := Kd.R_slice HO443.out
      (first | subst eo28 | (injection eo28 with f1_ f2_ f3_; have f4_ := f1_.symm; have f5_ := f3_.symm; clear f1_ f2_ f3_; subst f4_; subst f5_))
      refine hK.out _ _ ⟨(blk_cell BK438.out 0).trans rfl, (blk_cell BK438.out 1).trans rfl, (blk_cell BK435.out 0).trans rfl, (blk_cell BK435.out 1).trans rfl, ((HB.out.cell (World.block_lt_of_cell? w _ hw439_0)).trans hw439_0)⟩ (fun hHeld => ?_)
      clear hK K
      refine norm_ (a' := ?_) ?_ ?_
      rotate_left
      ·show Act.put _ (some 31) _ = _
       simp only [Act.put, List.setIfInBounds_toArray, List.set_cons_zero, List.set_cons_succ, i64_w, i32_w]
       rfl
      refine last_ (i := 7) (N := none) #[true, true, true, true, true, true, true, true] rfl rfl (one_of HT_.out (by kernel_rfl)) (by decide) (fun K hK => ?_)
      have hs27 : w26.cell? ⟨gb438, 0, none⟩ = some (.int .i64 x439000_1) := (blk_cell BK438.out 0).trans rfl
      have hfs27 := blk_frozen BK438.out 0
      have hns27_0 := NB435_438.out
      have hns27_1 := NB436_438.out
      have hns27_2 := NB437_438.out
      have hms27_0 := NB438_435.out
      have hms27_1 := NB438_436.out
      have hms27_2 := NB438_437.out
      have hs29 : w26.cell? ⟨gb438, 1, none⟩ = some (.slice Ao25 x439001_1.length co25) := (blk_cell BK438.out 1).trans rfl
      have hfs29 := blk_frozen BK438.out 1
      have hns29_0 := NB435_438.out
      have hns29_1 := NB436_438.out
      have hns29_2 := NB437_438.out
      have hms29_0 := NB438_435.out
      have hms29_1 := NB438_436.out
      have hms29_2 := NB438_437.out
      refine skip_ (w1 := ?_) (by rfl) rfl ?_ ?_
      rotate_left
      ·go_simp
       rfl
      refine hK.out _ _ ?_
      clear hK K
      refine done_ (done_of HT_.out (by kernel_rfl)) ?_
      try go_wp2
      go_roundg k1
      case measure => have := HK1.out; omega
      case rel => exact ⟨(wrap64 (x6_1 + 1)), (t440), (t441), (.slice Ao28 t441.length co28), zq29x_12, H', ⟨by have := HK1.out; omega⟩, ⟨by (with_reducible repeat (first | apply Kd.R_alloc | apply Kd.R_drewN | apply Kd.R_drew)); exact Kd.R_mono (Kd.R_far (p := ⟨gb438, 1, none⟩) (Kd.R_far (p := ⟨gb438, 0, none⟩) (Kd.R_types HO443.out BK438.out (by decide)) (fun _ hk => hk.2) (.int .i64 t440)) (fun _ hk => hk.2) (.slice Ao28 t441.length co28)) (fun _ hk => trivial)⟩, ⟨by (with_reducible repeat (first | refine blk_drewN ?_ _ | refine blk_drew ?_ | refine blk_alloc ?_ _)); refine blk_far ?_ NB435_438.out _; (with_reducible repeat (first | refine blk_drewN ?_ _ | refine blk_drew ?_ | refine blk_alloc ?_ _)); refine blk_far ?_ NB435_438.out _; (with_reducible repeat (first | refine blk_drewN ?_ _ | refine blk_drew ?_ | refine blk_alloc ?_ _)); exact BK435.out⟩, ⟨by (with_reducible repeat (first | refine blk_drewN ?_ _ | refine blk_drew ?_ | refine blk_alloc ?_ _)); refine blk_far ?_ NB436_438.out _; (with_reducible repeat (first | refine blk_drewN ?_ _ | refine blk_drew ?_ | refine blk_alloc ?_ _)); refine blk_far ?_ NB436_438.out _; (with_reducible repeat (first | refine blk_drewN ?_ _ | refine blk_drew ?_ | refine blk_alloc ?_ _)); exact BK436.out⟩, ⟨by (with_reducible repeat (first | refine blk_drewN ?_ _ | refine blk_drew ?_ | refine blk_alloc ?_ _)); refine blk_far ?_ NB437_438.out _; (with_reducible repeat (first | refine blk_drewN ?_ _ | refine blk_drew ?_ | refine blk_alloc ?_ _)); refine blk_far ?_ NB437_438.out _; (with_reducible repeat (first | refine blk_drewN ?_ _ | refine blk_drew ?_ | refine blk_alloc ?_ _)); exact BK437.out⟩, ⟨by (with_reducible repeat (first | refine blk_drewN ?_ _ | refine blk_drew ?_ | refine blk_alloc ?_ _)); refine blk_put (cs := #[.int .i64 t440, .slice Ao25 x439001_1.length co25]) ?_ 1 _ rfl; (with_reducible repeat (first | refine blk_drewN ?_ _ | refine blk_drew ?_ | refine blk_alloc ?_ _)); refine blk_put (cs := #[.int .i64 x439000_1, .slice Ao25 x439001_1.length co25]) ?_ 0 _ rfl; (with_reducible repeat (first | refine blk_drewN ?_ _ | refine blk_drew ?_ | refine blk_alloc ?_ _)); exact BK438.out⟩, ⟨by repeat (first | (with_reducible first | exact HB.out | apply below_alloc | apply pw_below_drewN | apply below_drew1 | refine below_set ?_ GE435.out | refine below_set ?_ GE436.out | refine below_set ?_ GE437.out | refine below_set ?_ GE438.out) | exact HB.out)⟩⟩
     ·rw [if_neg c18] at H
      exact absurd H (by simp)
    ·rw [if_neg c17] at H
     have c17b0 : decide (x6_1 < (l1_1.length : Int)) = false := decide_eq_false c17
     clear c17
     have H' := Aside0.mk H
     clear H
     have hnb30 := NB435_436.out
     have hnc30 := NB436_435.out
     have hnb31 := NB435_437.out
     have hnc31 := NB437_435.out
     have hnb32 := NB435_438.out
     have hnc32 := NB438_435.out
     have hcz33_0 : wr.cell? ⟨gb435, 0, none⟩ = some (.int .i64 a1_0) := (blk_cell BK435.out 0).trans rfl
     have hcz33_1 : wr.cell? ⟨gb435, 1, none⟩ = some (.slice A1_1 l1_1.length c1_1) := (blk_cell BK435.out 1).trans rfl
     have hfz33_0 := blk_frozen BK435.out 0
     have hfz33_1 := blk_frozen BK435.out 1
     go_wp2
     go_loopg [7] k1 (fun kq v7 w' => ∃ (x7_2 : Int) (x439000_2 : Int) (x439001_2 : List Int) (u439001 : Value), v7 = .int .i64 x7_2 ∧ Aside0 (cenotaphref02_Union_t.l1 kq x7_2 a0_0 l0_1 x439000_2 x439001_2 = some (r1, r2)) ∧ Aside0 (kq ≤ k1) ∧ Aside0 (Kd.R (Kd.int .i64) 3 w' w.heap.size (fun _ => True) u439001 x439001_2) ∧ Aside0 (w'.heap[gb435]? = some (.cells #[.int .i64 a1_0, (.slice A1_1 l1_1.length c1_1)] 30 (0, 0))) ∧ Aside0 (w'.heap[gb436]? = some (.cells #[.int .i64 a0_0, (.slice A0_1 l0_1.length c0_1)] 30 (0, 0))) ∧ Aside0 (w'.heap[gb437]? = some (.cells #[.int .i64 0, (.slice none 0 0)] 30 (0, 0))) ∧ Aside0 (w'.heap[gb438]? = some (.cells #[.int .i64 x439000_2, u439001] 30 (0, 0))) ∧ Aside0 (Below w.heap.size w w'))
     case atStart => exact ⟨(0), (x439000_1), (x439001_1), (u439001), zq29x_12, H', ⟨Nat.le_refl _⟩, ⟨by (with_reducible repeat (first | apply Kd.R_alloc | apply Kd.R_drewN | apply Kd.R_drew)); exact HO_439001.out⟩, ⟨by (with_reducible repeat (first | refine blk_drewN ?_ _ | refine blk_drew ?_ | refine blk_alloc ?_ _)); exact BK435.out⟩, ⟨by (with_reducible repeat (first | refine blk_drewN ?_ _ | refine blk_drew ?_ | refine blk_alloc ?_ _)); exact BK436.out⟩, ⟨by (with_reducible repeat (first | refine blk_drewN ?_ _ | refine blk_drew ?_ | refine blk_alloc ?_ _)); exact BK437.out⟩, ⟨by (with_reducible repeat (first | refine blk_drewN ?_ _ | refine blk_drew ?_ | refine blk_alloc ?_ _)); exact BK438.out⟩, ⟨by repeat (first | (with_reducible first | exact HB.out | apply below_alloc | apply pw_below_drewN | apply below_drew1 | refine below_set ?_ GE435.out | refine below_set ?_ GE436.out | refine below_set ?_ GE437.out | refine below_set ?_ GE438.out) | exact HB.out)⟩⟩
     case round =>
      clear H'
      try clear c1
      try clear c2
      try clear p2
      try clear c3
      try clear c3b0
      try clear p4
      try clear q4
      try clear hx4
      try clear p6
      try clear c7
      try clear c8
      try clear c10
      try clear c13
      try clear c14
      try clear c15
      try clear c17
      try clear c17b0
      try clear c18
      try clear c18b0
      try clear c19
      try clear c20
      try clear c21
      try clear c22
      try clear c29
      try clear c30
      try clear c31
      try clear c32
      try clear hcz11_0
      try clear hcz11_1
      try clear hcz16_0
      try clear hcz16_1
      try clear hcz23_0
      try clear hcz23_1
      try clear hcz33_0
      try clear hcz33_1
      try clear hcz9_0
      try clear hcz9_1
      try clear hfz11_0
      try clear hfz11_1
      try clear hfz16_0
      try clear hfz16_1
      try clear hfz23_0
      try clear hfz23_1
      try clear hfz33_0
      try clear hfz33_1
      try clear hfz9_0
      try clear hfz9_1
      try clear hx439_0
      try clear p2
      try clear p439
      try clear q439
      obtain ⟨x7_2, x439000_2, x439001_2, u439001, rfl, HA, HK2, HO_439001, BK435, BK436, BK437, BK438, HB⟩ := hrel
      cases gk with
      | zero => exact absurd HA.out (by simp [cenotaphref02_Union_t.l1])
      | succ k2 =>
       have H := HA.out
       clear HA
       simp only [cenotaphref02_Union_t.l1] at H
       by_cases c34 : x7_2 < (l0_1.length : Int)
       ·rw [if_pos c34] at H
        have c34b0 : decide (x7_2 < (l0_1.length : Int)) = true := decide_eq_true c34
        clear c34
        by_cases c35 : 0 ≤ x7_2
        ·rw [if_pos c35] at H
         have c35b0 : decide (0 ≤ x7_2) = true := decide_eq_true c35
         clear c35
         replace H := Option.bind_eq_some_iff.mp H
         obtain ⟨⟨t445, t446⟩, A360, H⟩ := H
         replace H : (cenotaphref02_Union_t.l1 k2 (wrap64 (x7_2 + 1)) a0_0 l0_1 t445 t446) = some (r1, r2) := H
         have A36 := Aside0.mk A360
         clear A360
         have H' := Aside0.mk H
         clear H
         have hnb37 := NB436_435.out
         have hnc37 := NB435_436.out
         have hnb38 := NB436_437.out
         have hnc38 := NB437_436.out
         have hnb39 := NB436_438.out
         have hnc39 := NB438_436.out
         have hcz40_0 : wr.cell? ⟨gb436, 0, none⟩ = some (.int .i64 a0_0) := (blk_cell BK436.out 0).trans rfl
         have hcz40_1 : wr.cell? ⟨gb436, 1, none⟩ = some (.slice A0_1 l0_1.length c0_1) := (blk_cell BK436.out 1).trans rfl
         have hfz40_0 := blk_frozen BK436.out 0
         have hfz40_1 := blk_frozen BK436.out 1
         try go_wp2
         replace HO_439001 := Aside0.mk (Kd.R_drew HO_439001.out)
         replace BK435 := Aside0.mk (blk_drew BK435.out)
         replace BK436 := Aside0.mk (blk_drew BK436.out)
         replace BK437 := Aside0.mk (blk_drew BK437.out)
         replace BK438 := Aside0.mk (blk_drew BK438.out)
         replace HB := Aside0.mk (below_drew1 HB.out)
         have p444 : 0 ≤ (x7_2 : Int) := of_decide_eq_true zq29x_11
         have q444 : x7_2 < (l0_1.length : Int) := of_decide_eq_true zq29x_11
         obtain ⟨ad444, e444, hx444_0⟩ := Kd.at_int HR0_1.out x7_2 p444 q444
         have hw444_0 := hx444_0
         cases e444
         replace hx444_0 := (HB.out.cell (World.block_lt_of_cell? w _ hx444_0)).trans hx444_0
         replace p444 := eq_true p444
         replace q444 := eq_true q444
         obtain ⟨Ao42, co42, eo42⟩ := Kd.R_slice HO_439001.out
         (first | subst eo42 | (injection eo42 with f1_ f2_ f3_; have f4_ := f1_.symm; have f5_ := f3_.symm; clear f1_ f2_ f3_; subst f4_; subst f5_))
         refine start_ (n := 8) (S := fun w' => w'.cell? ⟨gb438, 0, none⟩ = some (.int .i64 x439000_2) ∧ w'.cell? ⟨gb438, 1, none⟩ = some (.slice Ao42 x439001_2.length co42) ∧ w'.cell? ⟨gb436, 0, none⟩ = some (.int .i64 a0_0) ∧ w'.cell? ⟨gb436, 1, none⟩ = some (.slice (some ad444) l0_1.length c0_1) ∧ w'.cell? (ad444.add (x7_2).toNat) = some (.int .i64 (rd l0_1 x7_2))) (ds := [7]) #[false, false, false, false, false, false, false, false] (by kernel_rfl) rfl rfl ⟨(blk_cell BK438.out 0).trans rfl, (blk_cell BK438.out 1).trans rfl, (blk_cell BK436.out 0).trans rfl, (blk_cell BK436.out 1).trans rfl, ((HB.out.cell (World.block_lt_of_cell? w _ hw444_0)).trans hw444_0)⟩ (fun hHeld => ?_); refine with_tabW cenotaphref02_Union_t.tab11 cenotaphref02_Union_t.bits11 (fun HT_ HW_ => ?_)
         generalize wr.drew = w41 at HO_439001 BK435 BK436 BK437 BK438 HB hx444_0 hHeld ⊢
         refine pure_ (i := 1) (N := some 40) (v := ?_) (a' := ?_) #[false, true, false, false, false, false, false, false] rfl rfl (any_of HT_.out (by kernel_rfl)) (fun _ _ _ h => h) (Or.inl ⟨by rfl, ?_⟩) ?_ ?_
         rotate_left
         ·intro w'
          go_simp
          with_reducible rfl
         rotate_left
         ·simp only [Act.put, List.setIfInBounds_toArray, List.set_cons_zero, List.set_cons_succ, i64_w, i32_w]
          rfl
         refine pure_ (i := 3) (N := some 42) (v := ?_) (a' := ?_) #[false, true, false, true, false, false, false, false] rfl rfl (any_of HT_.out (by kernel_rfl)) (fun _ _ _ h => h) (Or.inl ⟨by rfl, ?_⟩) ?_ ?_
         rotate_left
         ·intro w'
          go_simp
          with_reducible rfl
         rotate_left
         ·simp only [Act.put, List.setIfInBounds_toArray, List.set_cons_zero, List.set_cons_succ, i64_w, i32_w]
          rfl
         refine take_ (i := 0) (N := some 39) (v := ?_) (a' := ?_) #[true, true, false, true, false, false, false, false] rfl rfl (take_ofW HT_.out HW_.out (by kernel_rfl)) (fun _ _ _ h => h) (Or.inl ⟨by rfl, ?_⟩) hHeld ?_ ?_
         rotate_left
         ·rintro w' ⟨s0, s1, s2, s3, s4⟩
          go_simp
          with_reducible rfl
         rotate_left
         ·simp only [Act.put, List.setIfInBounds_toArray, List.set_cons_zero, List.set_cons_succ, i64_w, i32_w]
          rfl
         refine take_ (i := 2) (N := some 41) (v := ?_) (a' := ?_) #[true, true, true, true, false, false, false, false] rfl rfl (take_ofW HT_.out HW_.out (by kernel_rfl)) (fun _ _ _ h => h) (Or.inl ⟨by rfl, ?_⟩) hHeld ?_ ?_
         rotate_left
         ·rintro w' ⟨s0, s1, s2, s3, s4⟩
          go_simp
          with_reducible rfl
         rotate_left
         ·simp only [Act.put, List.setIfInBounds_toArray, List.set_cons_zero, List.set_cons_succ, i64_w, i32_w]
          rfl
         refine pure_ (i := 4) (N := some 43) (v := ?_) (a' := ?_) #[true, true, true, true, true, false, false, false] rfl rfl (any_of HT_.out (by kernel_rfl)) (fun _ _ _ h => h) (Or.inl ⟨by rfl, ?_⟩) ?_ ?_
         rotate_left
         ·intro w'
          go_simp
          with_reducible rfl
         rotate_left
         ·simp only [Act.put, List.setIfInBounds_toArray, List.set_cons_zero, List.set_cons_succ, i64_w, i32_w]
          rfl
         refine take_ (i := 5) (N := some 44) (v := ?_) (a' := ?_) #[true, true, true, true, true, true, false, false] rfl rfl (take_ofW HT_.out HW_.out (by kernel_rfl)) (fun _ _ _ h => h) (Or.inl ⟨by rfl, ?_⟩) hHeld ?_ ?_
         rotate_left
         ·rintro w' ⟨s0, s1, s2, s3, s4⟩
          go_simp
          with_reducible rfl
         rotate_left
         ·simp only [Act.put, List.setIfInBounds_toArray, List.set_cons_zero, List.set_cons_succ, i64_w, i32_w]
          rfl
         refine one_ (i := 6) (N := some 45) #[true, true, true, true, true, true, true, false] rfl rfl (one_of HT_.out (by kernel_rfl)) (by decide) (fun K hK => ?_)
         refine goes_ Try.func19 (by kernel_rfl) rfl #[.agg #[.int .i64 x439000_2, .slice Ao42 x439001_2.length co42], .int .i64 (rd l0_1 x7_2)] (by rfl) rfl rfl (by (try simp only [List.map_toArray, List.map_cons, List.map_nil]); first | done | rfl | (simp only [List.length_drop, List.length_take]; rfl)) ?_
         with_reducible refine (cenotaphref02_Add.calls k2 x439000_2 _ _ x439001_2 (rd l0_1 x7_2) t445 t446 _ ?side1 ?side2 A36.out).mono ?_
         (case side1 => repeat (first | exact (Kd.R_reads' HO_439001.out).2.2 | (with_reducible refine Kd.C_alloc ?_ _) | (with_reducible refine Kd.C_drewN ?_ _) | (with_reducible refine Kd.C_drew ?_)))
         (case side2 => exact (Kd.R_reads' HO_439001.out).2.1)
         rintro e w43 ⟨v447, rfl, ho0, hb⟩
         refine ⟨_, rfl, ?_⟩
         have HO448 := Aside0.mk (Kd.R_lower (Kd.R_new' ho0 (Kd.R_lt zq29x_10)) (below_size zq29x_3))
         replace HO_439001 := Aside0.mk (Kd.R_elder' zq29x_10 (Kd.R_base ho0) hb)
         replace BK435 := Aside0.mk (blk_below (g := gb435) (o := .cells #[.int .i64 a1_0, .slice A1_1 l1_1.length c1_1] 30 (0, 0)) zq29x_8 hb)
         replace BK436 := Aside0.mk (blk_below (g := gb436) (o := .cells #[.int .i64 a0_0, .slice (some ad444) l0_1.length c0_1] 30 (0, 0)) zq29x_9 hb)
         replace BK437 := Aside0.mk (blk_below (g := gb437) (o := .cells #[.int .i64 0, .slice none 0 0] 30 (0, 0)) (by (with_reducible repeat (first | refine blk_drewN ?_ _ | refine blk_drew ?_ | refine blk_alloc ?_ _)); exact BK437.out) hb)
         replace BK438 := Aside0.mk (blk_below (g := gb438) (o := .cells #[.int .i64 x439000_2, .slice Ao42 x439001_2.length co42] 30 (0, 0)) (by (with_reducible repeat (first | refine blk_drewN ?_ _ | refine blk_drew ?_ | refine blk_alloc ?_ _)); exact BK438.out) hb)
         replace HB := Aside0.mk (below_step zq29x_3 hb)
         (try clear hb)
         (try clear hb2)
         (try clear hk)
         (try clear hi)
         (try clear ho0)
         obtain ⟨Ao45, co45, eo45⟩ := Kd.R_slice HO448.out
         (first | subst eo45 | (injection eo45 with f1_ f2_ f3_; have f4_ := f1_.symm; have f5_ := f3_.symm; clear f1_ f2_ f3_; subst f4_; subst f5_))
         refine hK.out _ _ ⟨(blk_cell BK438.out 0).trans rfl, (blk_cell BK438.out 1).trans rfl, (blk_cell BK436.out 0).trans rfl, (blk_cell BK436.out 1).trans rfl, ((HB.out.cell (World.block_lt_of_cell? w _ hw444_0)).trans hw444_0)⟩ (fun hHeld => ?_)
         clear hK K
         refine norm_ (a' := ?_) ?_ ?_
         rotate_left
         ·show Act.put _ (some 45) _ = _
          simp only [Act.put, List.setIfInBounds_toArray, List.set_cons_zero, List.set_cons_succ, i64_w, i32_w]
          rfl
         refine last_ (i := 7) (N := none) #[true, true, true, true, true, true, true, true] rfl rfl (one_of HT_.out (by kernel_rfl)) (by decide) (fun K hK => ?_)
         have hs44 : w43.cell? ⟨gb438, 0, none⟩ = some (.int .i64 x439000_2) := (blk_cell BK438.out 0).trans rfl
         have hfs44 := blk_frozen BK438.out 0
         have hns44_0 := NB435_438.out
         have hns44_1 := NB436_438.out
         have hns44_2 := NB437_438.out
         have hms44_0 := NB438_435.out
         have hms44_1 := NB438_436.out
         have hms44_2 := NB438_437.out
         have hs46 : w43.cell? ⟨gb438, 1, none⟩ = some (.slice Ao42 x439001_2.length co42) := (blk_cell BK438.out 1).trans rfl
         have hfs46 := blk_frozen BK438.out 1
         have hns46_0 := NB435_438.out
         have hns46_1 := NB436_438.out
         have hns46_2 := NB437_438.out
         have hms46_0 := NB438_435.out
         have hms46_1 := NB438_436.out
         have hms46_2 := NB438_437.out
         refine skip_ (w1 := ?_) (by rfl) rfl ?_ ?_
         rotate_left
         ·go_simp
          rfl
         refine hK.out _ _ ?_
         clear hK K
         refine done_ (done_of HT_.out (by kernel_rfl)) ?_
         try go_wp2
         go_roundg k2
         case measure => have := HK1.out; have := HK2.out; omega
         case rel => exact ⟨(wrap64 (x7_2 + 1)), (t445), (t446), (.slice Ao45 t446.length co45), zq29x_12, H', ⟨by have := HK1.out; have := HK2.out; omega⟩, ⟨by (with_reducible repeat (first | apply Kd.R_alloc | apply Kd.R_drewN | apply Kd.R_drew)); exact Kd.R_mono (Kd.R_far (p := ⟨gb438, 1, none⟩) (Kd.R_far (p := ⟨gb438, 0, none⟩) (Kd.R_types HO448.out BK438.out (by decide)) (fun _ hk => hk.2) (.int .i64 t445)) (fun _ hk => hk.2) (.slice Ao45 t446.length co45)) (fun _ hk => trivial)⟩, ⟨by (with_reducible repeat (first | refine blk_drewN ?_ _ | refine blk_drew ?_ | refine blk_alloc ?_ _)); refine blk_far ?_ NB435_438.out _; (with_reducible repeat (first | refine blk_drewN ?_ _ | refine blk_drew ?_ | refine blk_alloc ?_ _)); refine blk_far ?_ NB435_438.out _; (with_reducible repeat (first | refine blk_drewN ?_ _ | refine blk_drew ?_ | refine blk_alloc ?_ _)); exact BK435.out⟩, ⟨by (with_reducible repeat (first | refine blk_drewN ?_ _ | refine blk_drew ?_ | refine blk_alloc ?_ _)); refine blk_far ?_ NB436_438.out _; (with_reducible repeat (first | refine blk_drewN ?_ _ | refine blk_drew ?_ | refine blk_alloc ?_ _)); refine blk_far ?_ NB436_438.out _; (with_reducible repeat (first | refine blk_drewN ?_ _ | refine blk_drew ?_ | refine blk_alloc ?_ _)); exact BK436.out⟩, ⟨by (with_reducible repeat (first | refine blk_drewN ?_ _ | refine blk_drew ?_ | refine blk_alloc ?_ _)); refine blk_far ?_ NB437_438.out _; (with_reducible repeat (first | refine blk_drewN ?_ _ | refine blk_drew ?_ | refine blk_alloc ?_ _)); refine blk_far ?_ NB437_438.out _; (with_reducible repeat (first | refine blk_drewN ?_ _ | refine blk_drew ?_ | refine blk_alloc ?_ _)); exact BK437.out⟩, ⟨by (with_reducible repeat (first | refine blk_drewN ?_ _ | refine blk_drew ?_ | refine blk_alloc ?_ _)); refine blk_put (cs := #[.int .i64 t445, .slice Ao42 x439001_2.length co42]) ?_ 1 _ rfl; (with_reducible repeat (first | refine blk_drewN ?_ _ | refine blk_drew ?_ | refine blk_alloc ?_ _)); refine blk_put (cs := #[.int .i64 x439000_2, .slice Ao42 x439001_2.length co42]) ?_ 0 _ rfl; (with_reducible repeat (first | refine blk_drewN ?_ _ | refine blk_drew ?_ | refine blk_alloc ?_ _)); exact BK438.out⟩, ⟨by repeat (first | (with_reducible first | exact HB.out | apply below_alloc | apply pw_below_drewN | apply below_drew1 | refine below_set ?_ GE435.out | refine below_set ?_ GE436.out | refine below_set ?_ GE437.out | refine below_set ?_ GE438.out) | exact HB.out)⟩⟩
        ·rw [if_neg c35] at H
         exact absurd H (by simp)
       ·rw [if_neg c34] at H
        have c34b0 : decide (x7_2 < (l0_1.length : Int)) = false := decide_eq_false c34
        clear c34
        simp only [Option.some.injEq, Prod.mk.injEq] at H
        obtain ⟨rfl, rfl⟩ := H
        have hnb47 := NB436_435.out
        have hnc47 := NB435_436.out
        have hnb48 := NB436_437.out
        have hnc48 := NB437_436.out
        have hnb49 := NB436_438.out
        have hnc49 := NB438_436.out
        have hcz50_0 : wr.cell? ⟨gb436, 0, none⟩ = some (.int .i64 a0_0) := (blk_cell BK436.out 0).trans rfl
        have hcz50_1 : wr.cell? ⟨gb436, 1, none⟩ = some (.slice A0_1 l0_1.length c0_1) := (blk_cell BK436.out 1).trans rfl
        have hfz50_0 := blk_frozen BK436.out 0
        have hfz50_1 := blk_frozen BK436.out 1
        have hnb51 := NB438_435.out
        have hnc51 := NB435_438.out
        have hnb52 := NB438_437.out
        have hnc52 := NB437_438.out
        have hcz53_0 : wr.cell? ⟨gb438, 0, none⟩ = some (.int .i64 x439000_2) := (blk_cell BK438.out 0).trans rfl
        have hcz53_1 : wr.cell? ⟨gb438, 1, none⟩ = some (u439001) := (blk_cell BK438.out 1).trans rfl
        have hfz53_0 := blk_frozen BK438.out 0
        have hfz53_1 := blk_frozen BK438.out 1
        have hnb54 := NB437_435.out
        have hnc54 := NB435_437.out
        have hcz55_0 : wr.cell? ⟨gb437, 0, none⟩ = some (.int .i64 0) := (blk_cell BK437.out 0).trans rfl
        have hcz55_1 : wr.cell? ⟨gb437, 1, none⟩ = some (.slice none 0 0) := (blk_cell BK437.out 1).trans rfl
        have hfz55_0 := blk_frozen BK437.out 0
        have hfz55_1 := blk_frozen BK437.out 1
        obtain ⟨Ao56, co56, eo56⟩ := Kd.R_slice HO_439001.out
        subst eo56
        go_wp2
        refine bodyPost_ret (results_cell_row rfl _ _ gb437 30 #[.int .i64 x439000_2, .slice Ao56 x439001_2.length co56] (0, 0) _ rfl (by (with_reducible repeat (first | refine blk_drewN ?_ _ | refine blk_drew ?_ | refine blk_alloc ?_ _)); refine blk_put (cs := #[.int .i64 x439000_2, .slice none 0 0]) ?_ 1 _ rfl; (with_reducible repeat (first | refine blk_drewN ?_ _ | refine blk_drew ?_ | refine blk_alloc ?_ _)); refine blk_put (cs := #[.int .i64 0, .slice none 0 0]) ?_ 0 _ rfl; (with_reducible repeat (first | refine blk_drewN ?_ _ | refine blk_drew ?_ | refine blk_alloc ?_ _)); exact BK437.out) Try.underlying30 rfl (by kernel_rfl)) rfl ?_
        exact ⟨_, by first | rfl | (simp [errW_none, errW_some] <;> rfl) | (simp [*, errW_none, errW_some] <;> rfl), by (with_reducible repeat (first | apply Kd.R_alloc | apply Kd.R_drewN | apply Kd.R_drew)); exact Kd.R_mono (Kd.R_far (p := ⟨gb437, 1, none⟩) (Kd.R_far (p := ⟨gb437, 0, none⟩) (Kd.R_types HO_439001.out BK437.out (by decide)) (fun _ hk => hk.2) (.int .i64 x439000_2)) (fun _ hk => hk.2) (.slice Ao56 x439001_2.length co56)) (fun _ hk => trivial), by repeat (first | (with_reducible first | exact HB.out | apply below_alloc | apply pw_below_drewN | apply below_drew1 | refine below_set ?_ GE435.out | refine below_set ?_ GE436.out | refine below_set ?_ GE437.out | refine below_set ?_ GE438.out) | exact HB.out)⟩
 ·rw [if_neg c3] at H
  exact absurd H (by simp)

/-! ### cenotaphref02_Union_f: function 29 -/
theorem zq29xx_0 {p_ : Prop} (h_ : p_ := by repeat (first | (with_reducible first | exact HB.out | apply below_alloc | apply pw_below_drewN | apply below_drew1 | refine below_set ?_ GE449.out | refine below_set ?_ GE450.out | refine below_set ?_ GE451.out | refine below_set ?_ GE452.out) | exact HB.out)) : p_ := h_
theorem zq29xx_1 {p_ : Prop} (h_ : p_ := by rw [hg]; exact Nat.ne_of_lt (blk_lt (g := gb449) (o := .cells #[.int .i64 a0_0, .slice A0_1 l0_1.length c0_1] 30 (0, 0)) (by (with_reducible repeat (first | refine blk_drewN ?_ _ | refine blk_drew ?_ | refine blk_alloc ?_ _)); exact BK449.out))) : p_ := h_
theorem zq29xx_2 {p_ : Prop} (h_ : p_ := by rw [hg]; exact Nat.ne_of_gt (blk_lt (g := gb449) (o := .cells #[.int .i64 a0_0, .slice A0_1 l0_1.length c0_1] 30 (0, 0)) (by (with_reducible repeat (first | refine blk_drewN ?_ _ | refine blk_drew ?_ | refine blk_alloc ?_ _)); exact BK449.out))) : p_ := h_
theorem zq29xx_3 {p_ : Prop} (h_ : p_ := by repeat (first | (with_reducible first | exact HB.out | apply below_alloc | apply pw_below_drewN | apply below_drew1 | refine below_set ?_ GE449.out | refine below_set ?_ GE450.out | refine below_set ?_ GE451.out) | exact HB.out)) : p_ := h_
theorem zq29xx_4 {p_ : Prop} (h_ : p_ := by repeat (first | (with_reducible first | exact HB.out | apply below_alloc | apply pw_below_drewN | apply below_drew1 | refine below_set ?_ GE449.out | refine below_set ?_ GE450.out) | exact HB.out)) : p_ := h_
theorem zq29xx_5 {p_ : Prop} (h_ : p_ := by repeat (first | (with_reducible first | exact HB.out | apply below_alloc | apply pw_below_drewN | apply below_drew1 | refine below_set ?_ GE449.out) | exact HB.out)) : p_ := h_
theorem zq29xx_6 {p_ : Prop} (h_ : p_ := by repeat (first | (with_reducible first | exact HB.out | apply below_alloc | apply pw_below_drewN | apply below_drew1) | exact HB.out)) : p_ := h_
theorem zq29xx_7 {p_ : Prop} (h_ : p_ := by (with_reducible repeat (first | refine blk_drewN ?_ _ | refine blk_drew ?_ | refine blk_alloc ?_ _)); exact BK449.out) : p_ := h_
theorem zq29xx_8 {p_ : Prop} (h_ : p_ := by (with_reducible repeat (first | refine blk_drewN ?_ _ | refine blk_drew ?_ | refine blk_alloc ?_ _)); exact BK450.out) : p_ := h_
theorem zq29xx_9 {p_ : Prop} (h_ : p_ := by (with_reducible repeat (first | refine blk_drewN ?_ _ | refine blk_drew ?_ | refine blk_alloc ?_ _)); exact BK451.out) : p_ := h_
theorem zq29xx_10 {p_ : Prop} (h_ : p_ := by (with_reducible repeat (first | apply Kd.R_alloc | apply Kd.R_drewN | apply Kd.R_drew)); exact HO_453001.out) : p_ := h_
theorem zq29xx_11 {p_ : Prop} (h_ : p_ := by first | (with_reducible assumption) | assumption) : p_ := h_
theorem zq29xx_12 {p_ : Prop} (h_ : p_ := by first | rfl | (simp; done) | (simp [*]; done)) : p_ := h_
mutual
def cenotaphref02_Union_f.l0 : Nat → Int → Int → List Int → Int → List Int → Int → List Int → Option (Int × List Int)
 | 0, _, _, _, _, _, _, _ => none
 | k + 1, x6, x450000, x450001, x451000, x451001, x453000, x453001 => if x6 < (x450001.length : Int) then (if 0 ≤ x6 then ((cenotaphref02_Add.f k x453000 x453001 (rd x450001 x6)).bind fun bt454 => (cenotaphref02_Union_f.l0 k (wrap64 (x6 + 1)) x450000 x450001 x451000 x451001 bt454.1 bt454.2)) else (none)) else (cenotaphref02_Union_f.l1 k 0 x451000 x451001 x453000 x453001)
def cenotaphref02_Union_f.l1 : Nat → Int → Int → List Int → Int → List Int → Option (Int × List Int)
 | 0, _, _, _, _, _ => none
 | k + 1, x7, x451000, x451001, x453000, x453001 => if x7 < (x451001.length : Int) then (if 0 ≤ x7 then ((cenotaphref02_Add.f k x453000 x453001 (rd x451001 x7)).bind fun bt459 => (cenotaphref02_Union_f.l1 k (wrap64 (x7 + 1)) x451000 x451001 bt459.1 bt459.2)) else (none)) else (some (x453000, x453001))
end
def cenotaphref02_Union_f.f (k : Nat) (a0_0 : Int) (l0_1 : List Int) (a1_0 : Int) (l1_1 : List Int) : Option (Int × List Int) := if a1_0 > a0_0 then (none) else (cenotaphref02_Union_f.l0 k 0 a0_0 l0_1 a1_0 l1_1 a0_0 ([] : List Int))
theorem cenotaphref02_Union_f.mono_l : ∀ k, (∀ y0 y1 y2 y3 y4 y5 y6, LeO (cenotaphref02_Union_f.l0 k y0 y1 y2 y3 y4 y5 y6) (cenotaphref02_Union_f.l0 (k + 1) y0 y1 y2 y3 y4 y5 y6)) ∧ (∀ y0 y1 y2 y3 y4, LeO (cenotaphref02_Union_f.l1 k y0 y1 y2 y3 y4) (cenotaphref02_Union_f.l1 (k + 1) y0 y1 y2 y3 y4))
 | 0 => ⟨fun _ _ _ _ _ _ _ r h => by simp [cenotaphref02_Union_f.l0] at h, fun _ _ _ _ _ r h => by simp [cenotaphref02_Union_f.l1] at h⟩
 | k + 1 => by
  obtain ⟨ih0, ih1⟩ := cenotaphref02_Union_f.mono_l k
  refine ⟨?_, ?_⟩
  ·intro y0 y1 y2 y3 y4 y5 y6
   unfold cenotaphref02_Union_f.l0
   repeat' first
   | (with_reducible exact ih0 _ _ _ _ _ _ _)
   | (with_reducible exact ih1 _ _ _ _ _)
   | (with_reducible exact cenotaphref02_Add.mono _ _ _ _)
   | (with_reducible exact LeO.refl _)
   | (with_reducible exact LeO.none _)
   | (with_reducible refine LeO.ite ?_ ?_)
   | (with_reducible refine LeO.bind ?_ (fun _ => ?_))
   | exact ih0 _ _ _ _ _ _ _
   | exact ih1 _ _ _ _ _
   | exact cenotaphref02_Add.mono _ _ _ _
   | exact LeO.none _
   | refine LeO.ite ?_ ?_
   | refine LeO.bind ?_ (fun _ => ?_)
  ·intro y0 y1 y2 y3 y4
   unfold cenotaphref02_Union_f.l1
   repeat' first
   | (with_reducible exact ih0 _ _ _ _ _ _ _)
   | (with_reducible exact ih1 _ _ _ _ _)
   | (with_reducible exact cenotaphref02_Add.mono _ _ _ _)
   | (with_reducible exact LeO.refl _)
   | (with_reducible exact LeO.none _)
   | (with_reducible refine LeO.ite ?_ ?_)
   | (with_reducible refine LeO.bind ?_ (fun _ => ?_))
   | exact ih0 _ _ _ _ _ _ _
   | exact ih1 _ _ _ _ _
   | exact cenotaphref02_Add.mono _ _ _ _
   | exact LeO.none _
   | refine LeO.ite ?_ ?_
   | refine LeO.bind ?_ (fun _ => ?_)
theorem cenotaphref02_Union_f.mono : ∀ a0 a1 a2 a3 k, LeO (cenotaphref02_Union_f.f k a0 a1 a2 a3) (cenotaphref02_Union_f.f (k + 1) a0 a1 a2 a3) := by
 intro a0 a1 a2 a3 k
 obtain ⟨ih0, ih1⟩ := cenotaphref02_Union_f.mono_l k
 unfold cenotaphref02_Union_f.f
 repeat' first
   | (with_reducible exact ih0 _ _ _ _ _ _ _)
   | (with_reducible exact ih1 _ _ _ _ _)
   | (with_reducible exact cenotaphref02_Add.mono _ _ _ _)
   | (with_reducible exact LeO.refl _)
   | (with_reducible exact LeO.none _)
   | (with_reducible refine LeO.ite ?_ ?_)
   | (with_reducible refine LeO.bind ?_ (fun _ => ?_))
   | exact ih0 _ _ _ _ _ _ _
   | exact ih1 _ _ _ _ _
   | exact cenotaphref02_Add.mono _ _ _ _
   | exact LeO.none _
   | refine LeO.ite ?_ ?_
   | refine LeO.bind ?_ (fun _ => ?_)
def cenotaphref02_Union_f.T7 : Bool × List (List Nat × List Nat) := (true, [([], []), ([], []), ([1], [1]), ([], []), ([2, 3], [2, 3]), ([4], [4]), ([0, 5], [0, 5]), ([6, 6, 0, 1, 2, 3, 4, 5, 6], [6])])
def cenotaphref02_Union_f.B7 : List Nat := [0, 0, 2, 0, 14, 30, 63, 127]
theorem cenotaphref02_Union_f.tab7 : rtab .any (opsOf Try.f29 7) = cenotaphref02_Union_f.T7 := by kernel_rfl
theorem cenotaphref02_Union_f.bits7 : waitsOk cenotaphref02_Union_f.T7.2 cenotaphref02_Union_f.B7 = true := by kernel_rfl
def cenotaphref02_Union_f.T11 : Bool × List (List Nat × List Nat) := (true, [([], []), ([], []), ([1], [1]), ([], []), ([2, 3], [2, 3]), ([4], [4]), ([0, 5], [0, 5]), ([6, 6, 0, 1, 2, 3, 4, 5, 6], [6])])
def cenotaphref02_Union_f.B11 : List Nat := [0, 0, 2, 0, 14, 30, 63, 127]
theorem cenotaphref02_Union_f.tab11 : rtab .any (opsOf Try.f29 11) = cenotaphref02_Union_f.T11 := by kernel_rfl
theorem cenotaphref02_Union_f.bits11 : waitsOk cenotaphref02_Union_f.T11.2 cenotaphref02_Union_f.B11 = true := by kernel_rfl
set_option maxHeartbeats 8000000 in
set_option maxRecDepth 100000 in
theorem cenotaphref02_Union_f.calls (k : Nat) (a0_0 : Int) (A0_1 : Option Addr) (c0_1 : Nat) (l0_1 : List Int) (a1_0 : Int) (A1_1 : Option Addr) (c1_1 : Nat) (l1_1 : List Int) (r1 : Int) (r2 : List Int) (w : World) (hr0_1 : Kd.C (Kd.int .i64) w A0_1 l0_1.length l0_1) (hc0_1 : l0_1.length ≤ c0_1) (hr1_1 : Kd.C (Kd.int .i64) w A1_1 l1_1.length l1_1) (hc1_1 : l1_1.length ≤ c1_1) (h : cenotaphref02_Union_f.f k a0_0 l0_1 a1_0 l1_1 = some (r1, r2)) :
  Calls Try.prog 29 #[.agg #[.int .i64 a0_0, .slice A0_1 l0_1.length c0_1], .agg #[.int .i64 a1_0, .slice A1_1 l1_1.length c1_1]] w fun e w' => ∃ v1_ : Value, e = .returned (.agg #[.int .i64 r1, v1_]) ∧ Kd.R (Kd.int .i64) 3 w' w.heap.size (fun _ => True) v1_ r2 ∧ Below w.heap.size w w' := by
 have hu30 := Try.underlying30
 have HR0_1 := Aside0.mk hr0_1
 have HC0_1 := Aside0.mk hc0_1
 clear hr0_1 hc0_1
 have HR1_1 := Aside0.mk hr1_1
 have HC1_1 := Aside0.mk hc1_1
 clear hr1_1 hc1_1
 have HB := Aside0.mk (Below.refl w.heap.size w)
 have H : (if a1_0 > a0_0 then (none) else (cenotaphref02_Union_f.l0 k 0 a0_0 l0_1 a1_0 l1_1 a0_0 ([] : List Int))) = some (r1, r2) := h
 clear h
 by_cases c3 : a1_0 > a0_0
 ·rw [if_pos c3] at H
  exact absurd H (by simp)
 ·rw [if_neg c3] at H
  have c3b0 : decide (a0_0 < a1_0) = false := decide_eq_false c3
  clear c3
  have H' := Aside0.mk H
  clear H
  go_enter Try.func29, Try.ntmps29
  go_wp2_with (first | ((with_reducible refine gate_dst (N := 2) rfl ?_); refine box_event ?hg (N := 2) ?hd (cs := #[.int .i64 a0_0, .slice A0_1 l0_1.length c0_1]) (t := 30) ?hr ?_; (case hd => rfl); (case hg => rfl); (case hr => first | (go_simp; done) | (go_simp; rfl)); intro gb449 hg w4 hbox hb; have n0_ := Aside0.mk (below_step zq29xx_6 hb); have n1_ := Aside0.mk (hbox); have n2_ := Aside0.mk (((by rw [hg]; exact (below_size zq29xx_6)) : w.heap.size ≤ gb449)); have n3_ := Aside0.mk (((by rw [hg]; exact (below_size zq29xx_6)) : w.heap.size ≤ gb449)); clear HB; have HB := n0_; have BK449 := n1_; have GW449 := n2_; have GE449 := n3_; clear n0_ n1_ n2_ n3_; clear hb hbox hg) | ((with_reducible refine gate_dst (N := 3) rfl ?_); refine box_event ?hg (N := 3) ?hd (cs := #[.int .i64 a1_0, .slice A1_1 l1_1.length c1_1]) (t := 30) ?hr ?_; (case hd => rfl); (case hg => rfl); (case hr => first | (go_simp; done) | (go_simp; rfl)); intro gb450 hg w5 hbox hb; have n0_ := Aside0.mk (blk_below (g := gb449) (o := .cells #[.int .i64 a0_0, .slice A0_1 l0_1.length c0_1] 30 (0, 0)) zq29xx_7 hb); have n1_ := Aside0.mk (below_step zq29xx_5 hb); have n2_ := Aside0.mk (hbox); have n3_ := Aside0.mk (((by rw [hg]; exact (below_size zq29xx_5)) : w.heap.size ≤ gb450)); have n4_ := Aside0.mk (((by rw [hg]; exact (below_size zq29xx_5)) : w.heap.size ≤ gb450)); have n5_ := Aside0.mk ((zq29xx_1 : gb449 ≠ gb450)); have n6_ := Aside0.mk ((zq29xx_2 : gb450 ≠ gb449)); clear BK449; clear HB; have BK449 := n0_; have HB := n1_; have BK450 := n2_; have GW450 := n3_; have GE450 := n4_; have NB449_450 := n5_; have NB450_449 := n6_; clear n0_ n1_ n2_ n3_ n4_ n5_ n6_; clear hb hbox hg) | ((with_reducible refine gate_dst (N := 4) rfl ?_); refine box_event ?hg (N := 4) ?hd (cs := #[.int .i64 0, .slice none 0 0]) (t := 30) ?hr ?_; (case hd => rfl); (case hg => rfl); (case hr => first | (go_simp; done) | (go_simp; rfl)); intro gb451 hg w6 hbox hb; have n0_ := Aside0.mk (blk_below (g := gb449) (o := .cells #[.int .i64 a0_0, .slice A0_1 l0_1.length c0_1] 30 (0, 0)) zq29xx_7 hb); have n1_ := Aside0.mk (blk_below (g := gb450) (o := .cells #[.int .i64 a1_0, .slice A1_1 l1_1.length c1_1] 30 (0, 0)) zq29xx_8 hb); have n2_ := Aside0.mk (below_step zq29xx_4 hb); have n3_ := Aside0.mk (hbox); have n4_ := Aside0.mk (((by rw [hg]; exact (below_size zq29xx_4)) : w.heap.size ≤ gb451)); have n5_ := Aside0.mk (((by rw [hg]; exact (below_size zq29xx_4)) : w.heap.size ≤ gb451)); have n6_ := Aside0.mk ((zq29xx_1 : gb449 ≠ gb451)); have n7_ := Aside0.mk ((zq29xx_2 : gb451 ≠ gb449)); have n8_ := Aside0.mk (((by rw [hg]; exact Nat.ne_of_lt (blk_lt (g := gb450) (o := .cells #[.int .i64 a1_0, .slice A1_1 l1_1.length c1_1] 30 (0, 0)) zq29xx_8)) : gb450 ≠ gb451)); have n9_ := Aside0.mk (((by rw [hg]; exact Nat.ne_of_gt (blk_lt (g := gb450) (o := .cells #[.int .i64 a1_0, .slice A1_1 l1_1.length c1_1] 30 (0, 0)) zq29xx_8)) : gb451 ≠ gb450)); clear BK449; clear BK450; clear HB; have BK449 := n0_; have BK450 := n1_; have HB := n2_; have BK451 := n3_; have GW451 := n4_; have GE451 := n5_; have NB449_451 := n6_; have NB451_449 := n7_; have NB450_451 := n8_; have NB451_450 := n9_; clear n0_ n1_ n2_ n3_ n4_ n5_ n6_ n7_ n8_ n9_; clear hb hbox hg; have hnb7 := NB450_449.out; have hnc7 := NB449_450.out; have hnb8 := NB450_451.out; have hnc8 := NB451_450.out; have hcz9_0 : w6.cell? ⟨gb450, 0, none⟩ = some (.int .i64 a1_0) := (blk_cell BK450.out 0).trans rfl; have hcz9_1 : w6.cell? ⟨gb450, 1, none⟩ = some (.slice A1_1 l1_1.length c1_1) := (blk_cell BK450.out 1).trans rfl; have hfz9_0 := blk_frozen BK450.out 0; have hfz9_1 := blk_frozen BK450.out 1; have hnb10 := NB449_451.out; have hnc10 := NB451_449.out; have hcz11_0 : w6.cell? ⟨gb449, 0, none⟩ = some (.int .i64 a0_0) := (blk_cell BK449.out 0).trans rfl; have hcz11_1 : w6.cell? ⟨gb449, 1, none⟩ = some (.slice A0_1 l0_1.length c0_1) := (blk_cell BK449.out 1).trans rfl; have hfz11_0 := blk_frozen BK449.out 0; have hfz11_1 := blk_frozen BK449.out 1) | ((with_reducible refine gate_dst (N := 5) rfl ?_); refine box_event ?hg (N := 5) ?hd (cs := #[.int .i64 0, .slice none 0 0]) (t := 30) ?hr ?_; (case hd => rfl); (case hg => rfl); (case hr => first | (go_simp; done) | (go_simp; rfl)); intro gb452 hg w12 hbox hb; have n0_ := Aside0.mk (blk_below (g := gb449) (o := .cells #[.int .i64 a0_0, .slice A0_1 l0_1.length c0_1] 30 (0, 0)) zq29xx_7 hb); have n1_ := Aside0.mk (blk_below (g := gb450) (o := .cells #[.int .i64 a1_0, .slice A1_1 l1_1.length c1_1] 30 (0, 0)) zq29xx_8 hb); have n2_ := Aside0.mk (blk_below (g := gb451) (o := .cells #[.int .i64 0, .slice none 0 0] 30 (0, 0)) zq29xx_9 hb); have n3_ := Aside0.mk (below_step zq29xx_3 hb); have n4_ := Aside0.mk (hbox); have n5_ := Aside0.mk (((by rw [hg]; exact (below_size zq29xx_3)) : w.heap.size ≤ gb452)); have n6_ := Aside0.mk (((by rw [hg]; exact (below_size zq29xx_3)) : w.heap.size ≤ gb452)); have n7_ := Aside0.mk ((zq29xx_1 : gb449 ≠ gb452)); have n8_ := Aside0.mk ((zq29xx_2 : gb452 ≠ gb449)); have n9_ := Aside0.mk (((by rw [hg]; exact Nat.ne_of_lt (blk_lt (g := gb450) (o := .cells #[.int .i64 a1_0, .slice A1_1 l1_1.length c1_1] 30 (0, 0)) zq29xx_8)) : gb450 ≠ gb452)); have n10_ := Aside0.mk (((by rw [hg]; exact Nat.ne_of_gt (blk_lt (g := gb450) (o := .cells #[.int .i64 a1_0, .slice A1_1 l1_1.length c1_1] 30 (0, 0)) zq29xx_8)) : gb452 ≠ gb450)); have n11_ := Aside0.mk (((by rw [hg]; exact Nat.ne_of_lt (blk_lt (g := gb451) (o := .cells #[.int .i64 0, .slice none 0 0] 30 (0, 0)) zq29xx_9)) : gb451 ≠ gb452)); have n12_ := Aside0.mk (((by rw [hg]; exact Nat.ne_of_gt (blk_lt (g := gb451) (o := .cells #[.int .i64 0, .slice none 0 0] 30 (0, 0)) zq29xx_9)) : gb452 ≠ gb451)); clear BK449; clear BK450; clear BK451; clear HB; have BK449 := n0_; have BK450 := n1_; have BK451 := n2_; have HB := n3_; have BK452 := n4_; have GW452 := n5_; have GE452 := n6_; have NB449_452 := n7_; have NB452_449 := n8_; have NB450_452 := n9_; have NB452_450 := n10_; have NB451_452 := n11_; have NB452_451 := n12_; clear n0_ n1_ n2_ n3_ n4_ n5_ n6_ n7_ n8_ n9_ n10_ n11_ n12_; clear hb hbox hg; have hnb13 := NB452_449.out; have hnc13 := NB449_452.out; have hnb14 := NB452_450.out; have hnc14 := NB450_452.out; have hnb15 := NB452_451.out; have hnc15 := NB451_452.out; have hcz16_0 : w12.cell? ⟨gb452, 0, none⟩ = some (.int .i64 0) := (blk_cell BK452.out 0).trans rfl; have hcz16_1 : w12.cell? ⟨gb452, 1, none⟩ = some (.slice none 0 0) := (blk_cell BK452.out 1).trans rfl; have hfz16_0 := blk_frozen BK452.out 0; have hfz16_1 := blk_frozen BK452.out 1))
  go_loopg [6] k (fun kq v6 w' => ∃ (x6_1 : Int) (x453000_1 : Int) (x453001_1 : List Int) (u453001 : Value), v6 = .int .i64 x6_1 ∧ Aside0 (cenotaphref02_Union_f.l0 kq x6_1 a0_0 l0_1 a1_0 l1_1 x453000_1 x453001_1 = some (r1, r2)) ∧ Aside0 (kq ≤ k) ∧ Aside0 (Kd.R (Kd.int .i64) 3 w' w.heap.size (fun _ => True) u453001 x453001_1) ∧ Aside0 (w'.heap[gb449]? = some (.cells #[.int .i64 a0_0, (.slice A0_1 l0_1.length c0_1)] 30 (0, 0))) ∧ Aside0 (w'.heap[gb450]? = some (.cells #[.int .i64 a1_0, (.slice A1_1 l1_1.length c1_1)] 30 (0, 0))) ∧ Aside0 (w'.heap[gb451]? = some (.cells #[.int .i64 0, (.slice none 0 0)] 30 (0, 0))) ∧ Aside0 (w'.heap[gb452]? = some (.cells #[.int .i64 x453000_1, u453001] 30 (0, 0))) ∧ Aside0 (Below w.heap.size w w'))
  case atStart => exact ⟨(0), (a0_0), (([] : List Int)), (.slice none 0 0), zq29xx_12, H', ⟨Nat.le_refl _⟩, ⟨by first | exact Kd.R_nil _ _ _ _ _ | exact Kd.N_nil _ _ _ _ _ | exact Kd.V_nil _ _ _ _ _ | exact Kd.Q_nil _ _ _ _ _ | exact Kd.S_nil _ _ _ _ _⟩, ⟨by (with_reducible repeat (first | refine blk_drewN ?_ _ | refine blk_drew ?_ | refine blk_alloc ?_ _)); refine blk_far ?_ NB449_452.out _; (with_reducible repeat (first | refine blk_drewN ?_ _ | refine blk_drew ?_ | refine blk_alloc ?_ _)); refine blk_far ?_ NB449_452.out _; (with_reducible repeat (first | refine blk_drewN ?_ _ | refine blk_drew ?_ | refine blk_alloc ?_ _)); exact BK449.out⟩, ⟨by (with_reducible repeat (first | refine blk_drewN ?_ _ | refine blk_drew ?_ | refine blk_alloc ?_ _)); refine blk_far ?_ NB450_452.out _; (with_reducible repeat (first | refine blk_drewN ?_ _ | refine blk_drew ?_ | refine blk_alloc ?_ _)); refine blk_far ?_ NB450_452.out _; (with_reducible repeat (first | refine blk_drewN ?_ _ | refine blk_drew ?_ | refine blk_alloc ?_ _)); exact BK450.out⟩, ⟨by (with_reducible repeat (first | refine blk_drewN ?_ _ | refine blk_drew ?_ | refine blk_alloc ?_ _)); refine blk_far ?_ NB451_452.out _; (with_reducible repeat (first | refine blk_drewN ?_ _ | refine blk_drew ?_ | refine blk_alloc ?_ _)); refine blk_far ?_ NB451_452.out _; (with_reducible repeat (first | refine blk_drewN ?_ _ | refine blk_drew ?_ | refine blk_alloc ?_ _)); exact BK451.out⟩, ⟨by (with_reducible repeat (first | refine blk_drewN ?_ _ | refine blk_drew ?_ | refine blk_alloc ?_ _)); refine blk_put (cs := #[.int .i64 a0_0, .slice none 0 0]) ?_ 1 _ rfl; (with_reducible repeat (first | refine blk_drewN ?_ _ | refine blk_drew ?_ | refine blk_alloc ?_ _)); refine blk_put (cs := #[.int .i64 0, .slice none 0 0]) ?_ 0 _ rfl; (with_reducible repeat (first | refine blk_drewN ?_ _ | refine blk_drew ?_ | refine blk_alloc ?_ _)); exact BK452.out⟩, ⟨by repeat (first | (with_reducible first | exact HB.out | apply below_alloc | apply pw_below_drewN | apply below_drew1 | refine below_set ?_ GE449.out | refine below_set ?_ GE450.out | refine below_set ?_ GE451.out | refine below_set ?_ GE452.out) | exact HB.out)⟩⟩
  case round =>
   clear H'
   try clear c1
   try clear c2
   try clear p2
   try clear c3
   try clear c3b0
   try clear c7
   try clear c8
   try clear c10
   try clear c13
   try clear c14
   try clear c15
   try clear hcz11_0
   try clear hcz11_1
   try clear hcz16_0
   try clear hcz16_1
   try clear hcz9_0
   try clear hcz9_1
   try clear hfz11_0
   try clear hfz11_1
   try clear hfz16_0
   try clear hfz16_1
   try clear hfz9_0
   try clear hfz9_1
   obtain ⟨x6_1, x453000_1, x453001_1, u453001, rfl, HA, HK1, HO_453001, BK449, BK450, BK451, BK452, HB⟩ := hrel
   cases gk with
   | zero => exact absurd HA.out (by simp [cenotaphref02_Union_f.l0])
   | succ k1 =>
    have H := HA.out
    clear HA
    simp only [cenotaphref02_Union_f.l0] at H
    by_cases c17 : x6_1 < (l0_1.length : Int)
    ·rw [if_pos c17] at H
     have c17b0 : decide (x6_1 < (l0_1.length : Int)) = true := decide_eq_true c17
     clear c17
     by_cases c18 : 0 ≤ x6_1
     ·rw [if_pos c18] at H
      have c18b0 : decide (0 ≤ x6_1) = true := decide_eq_true c18
      clear c18
      replace H := Option.bind_eq_some_iff.mp H
      obtain ⟨⟨t454, t455⟩, A190, H⟩ := H
      replace H : (cenotaphref02_Union_f.l0 k1 (wrap64 (x6_1 + 1)) a0_0 l0_1 a1_0 l1_1 t454 t455) = some (r1, r2) := H
      have A19 := Aside0.mk A190
      clear A190
      have H' := Aside0.mk H
      clear H
      have hnb20 := NB449_450.out
      have hnc20 := NB450_449.out
      have hnb21 := NB449_451.out
      have hnc21 := NB451_449.out
      have hnb22 := NB449_452.out
      have hnc22 := NB452_449.out
      have hcz23_0 : wr.cell? ⟨gb449, 0, none⟩ = some (.int .i64 a0_0) := (blk_cell BK449.out 0).trans rfl
      have hcz23_1 : wr.cell? ⟨gb449, 1, none⟩ = some (.slice A0_1 l0_1.length c0_1) := (blk_cell BK449.out 1).trans rfl
      have hfz23_0 := blk_frozen BK449.out 0
      have hfz23_1 := blk_frozen BK449.out 1
      try go_wp2
      replace HO_453001 := Aside0.mk (Kd.R_drew HO_453001.out)
      replace BK449 := Aside0.mk (blk_drew BK449.out)
      replace BK450 := Aside0.mk (blk_drew BK450.out)
      replace BK451 := Aside0.mk (blk_drew BK451.out)
      replace BK452 := Aside0.mk (blk_drew BK452.out)
      replace HB := Aside0.mk (below_drew1 HB.out)
      have p453 : 0 ≤ (x6_1 : Int) := of_decide_eq_true zq29xx_11
      have q453 : x6_1 < (l0_1.length : Int) := of_decide_eq_true zq29xx_11
      obtain ⟨ad453, e453, hx453_0⟩ := Kd.at_int HR0_1.out x6_1 p453 q453
      have hw453_0 := hx453_0
      cases e453
      replace hx453_0 := (HB.out.cell (World.block_lt_of_cell? w _ hx453_0)).trans hx453_0
      replace p453 := eq_true p453
      replace q453 := eq_true q453
      obtain ⟨Ao25, co25, eo25⟩ := Kd.R_slice HO_453001.out
      (first | subst eo25 | (injection eo25 with f1_ f2_ f3_; have f4_ := f1_.symm; have f5_ := f3_.symm; clear f1_ f2_ f3_; subst f4_; subst f5_))
      refine start_ (n := 8) (S := fun w' => w'.cell? ⟨gb452, 0, none⟩ = some (.int .i64 x453000_1) ∧ w'.cell? ⟨gb452, 1, none⟩ = some (.slice Ao25 x453001_1.length co25) ∧ w'.cell? ⟨gb449, 0, none⟩ = some (.int .i64 a0_0) ∧ w'.cell? ⟨gb449, 1, none⟩ = some (.slice (some ad453) l0_1.length c0_1) ∧ w'.cell? (ad453.add (x6_1).toNat) = some (.int .i64 (rd l0_1 x6_1))) (ds := [7]) #[false, false, false, false, false, false, false, false] (by kernel_rfl) rfl rfl ⟨(blk_cell BK452.out 0).trans rfl, (blk_cell BK452.out 1).trans rfl, (blk_cell BK449.out 0).trans rfl, (blk_cell BK449.out 1).trans rfl, ((HB.out.cell (World.block_lt_of_cell? w _ hw453_0)).trans hw453_0)⟩ (fun hHeld => ?_); refine with_tabW cenotaphref02_Union_f.tab7 cenotaphref02_Union_f.bits7 (fun HT_ HW_ => ?_)
      generalize wr.drew = w24 at HO_453001 BK449 BK450 BK451 BK452 HB hx453_0 hHeld ⊢
      refine pure_ (i := 1) (N := some 26) (v := ?_) (a' := ?_) #[false, true, false, false, false, false, false, false] rfl rfl (any_of HT_.out (by kernel_rfl)) (fun _ _ _ h => h) (Or.inl ⟨by rfl, ?_⟩) ?_ ?_
      rotate_left
      ·intro w'
       go_simp
       with_reducible rfl
      rotate_left
      ·simp only [Act.put, List.setIfInBounds_toArray, List.set_cons_zero, List.set_cons_succ, i64_w, i32_w]
       rfl
      refine pure_ (i := 3) (N := some 28) (v := ?_) (a' := ?_) #[false, true, false, true, false, false, false, false] rfl rfl (any_of HT_.out (by kernel_rfl)) (fun _ _ _ h => h) (Or.inl ⟨by rfl, ?_⟩) ?_ ?_
      rotate_left
      ·intro w'
       go_simp
       with_reducible rfl
      rotate_left
      ·simp only [Act.put, List.setIfInBounds_toArray, List.set_cons_zero, List.set_cons_succ, i64_w, i32_w]
       rfl
      refine take_ (i := 0) (N := some 25) (v := ?_) (a' := ?_) #[true, true, false, true, false, false, false, false] rfl rfl (take_ofW HT_.out HW_.out (by kernel_rfl)) (fun _ _ _ h => h) (Or.inl ⟨by rfl, ?_⟩) hHeld ?_ ?_
      rotate_left
      ·rintro w' ⟨s0, s1, s2, s3, s4⟩
       go_simp
       with_reducible rfl
      rotate_left
      ·simp only [Act.put, List.setIfInBounds_toArray, List.set_cons_zero, List.set_cons_succ, i64_w, i32_w]
       rfl
      refine take_ (i := 2) (N := some 27) (v := ?_) (a' := ?_) #[true, true, true, true, false, false, false, false] rfl rfl (take_ofW HT_.out HW_.out (by kernel_rfl)) (fun _ _ _ h => h) (Or.inl ⟨by rfl, ?_⟩) hHeld ?_ ?_
      rotate_left
      ·rintro w' ⟨s0, s1, s2, s3, s4⟩
       go_simp
       with_reducible rfl
      rotate_left
      ·simp only [Act.put, List.setIfInBounds_toArray, List.set_cons_zero, List.set_cons_succ, i64_w, i32_w]
       rfl
      refine pure_ (i := 4) (N := some 29) (v := ?_) (a' := ?_) #[true, true, true, true, true, false, false, false] rfl rfl (any_of HT_.out (by kernel_rfl)) (fun _ _ _ h => h) (Or.inl ⟨by rfl, ?_⟩) ?_ ?_
      rotate_left
      ·intro w'
       go_simp
       with_reducible rfl
      rotate_left
      ·simp only [Act.put, List.setIfInBounds_toArray, List.set_cons_zero, List.set_cons_succ, i64_w, i32_w]
       rfl
      refine take_ (i := 5) (N := some 30) (v := ?_) (a' := ?_) #[true, true, true, true, true, true, false, false] rfl rfl (take_ofW HT_.out HW_.out (by kernel_rfl)) (fun _ _ _ h => h) (Or.inl ⟨by rfl, ?_⟩) hHeld ?_ ?_
      rotate_left
      ·rintro w' ⟨s0, s1, s2, s3, s4⟩
       go_simp
       with_reducible rfl
      rotate_left
      ·simp only [Act.put, List.setIfInBounds_toArray, List.set_cons_zero, List.set_cons_succ, i64_w, i32_w]
       rfl
      refine one_ (i := 6) (N := some 31) #[true, true, true, true, true, true, true, false] rfl rfl (one_of HT_.out (by kernel_rfl)) (by decide) (fun K hK => ?_)
      refine goes_ Try.func19 (by kernel_rfl) rfl #[.agg #[.int .i64 x453000_1, .slice Ao25 x453001_1.length co25], .int .i64 (rd l0_1 x6_1)] (by rfl) rfl rfl (by (try simp only [List.map_toArray, List.map_cons, List.map_nil]); first | done | rfl | (simp only [List.length_drop, List.length_take]; rfl)) ?_
      with_reducible refine (cenotaphref02_Add.calls k1 x453000_1 _ _ x453001_1 (rd l0_1 x6_1) t454 t455 _ ?side1 ?side2 A19.out).mono ?_
      (case side1 => repeat (first | exact (Kd.R_reads' HO_453001.out).2.2 | (with_reducible refine Kd.C_alloc ?_ _) | (with_reducible refine Kd.C_drewN ?_ _) | (with_reducible refine Kd.C_drew ?_)))
      (case side2 => exact (Kd.R_reads' HO_453001.out).2.1)
      rintro e w26 ⟨v456, rfl, ho0, hb⟩
      refine ⟨_, rfl, ?_⟩
      have HO457 := Aside0.mk (Kd.R_lower (Kd.R_new' ho0 (Kd.R_lt zq29xx_10)) (below_size zq29xx_0))
      replace HO_453001 := Aside0.mk (Kd.R_elder' zq29xx_10 (Kd.R_base ho0) hb)
      replace BK449 := Aside0.mk (blk_below (g := gb449) (o := .cells #[.int .i64 a0_0, .slice (some ad453) l0_1.length c0_1] 30 (0, 0)) zq29xx_7 hb)
      replace BK450 := Aside0.mk (blk_below (g := gb450) (o := .cells #[.int .i64 a1_0, .slice A1_1 l1_1.length c1_1] 30 (0, 0)) zq29xx_8 hb)
      replace BK451 := Aside0.mk (blk_below (g := gb451) (o := .cells #[.int .i64 0, .slice none 0 0] 30 (0, 0)) zq29xx_9 hb)
      replace BK452 := Aside0.mk (blk_below (g := gb452) (o := .cells #[.int .i64 x453000_1, .slice Ao25 x453001_1.length co25] 30 (0, 0)) (by (with_reducible repeat (first | refine blk_drewN ?_ _ | refine blk_drew ?_ | refine blk_alloc ?_ _)); exact BK452.out) hb)
      replace HB := Aside0.mk (below_step zq29xx_0 hb)
      (try clear hb)
      (try clear hb2)
      (try clear hk)
      (try clear hi)
      (try clear ho0)
      obtain ⟨Ao28, co28, eo28⟩ := Kd.R_slice HO457.out
      (first | subst eo28 | (injection eo28 with f1_ f2_ f3_; have f4_ := f1_.symm; have f5_ := f3_.symm; clear f1_ f2_ f3_; subst f4_; subst f5_))
      refine hK.out _ _ ⟨(blk_cell BK452.out 0).trans rfl, (blk_cell BK452.out 1).trans rfl, (blk_cell BK449.out 0).trans rfl, (blk_cell BK449.out 1).trans rfl, ((HB.out.cell (World.block_lt_of_cell? w _ hw453_0)).trans hw453_0)⟩ (fun hHeld => ?_)
      clear hK K
      refine norm_ (a' := ?_) ?_ ?_
      rotate_left
      ·show Act.put _ (some 31) _ = _
       simp only [Act.put, List.setIfInBounds_toArray, List.set_cons_zero, List.set_cons_succ, i64_w, i32_w]
       rfl
      refine last_ (i := 7) (N := none) #[true, true, true, true, true, true, true, true] rfl rfl (one_of HT_.out (by kernel_rfl)) (by decide) (fun K hK => ?_)
      have hs27 : w26.cell? ⟨gb452, 0, none⟩ = some (.int .i64 x453000_1) := (blk_cell BK452.out 0).trans rfl
      have hfs27 := blk_frozen BK452.out 0
      have hns27_0 := NB449_452.out
      have hns27_1 := NB450_452.out
      have hns27_2 := NB451_452.out
      have hms27_0 := NB452_449.out
      have hms27_1 := NB452_450.out
      have hms27_2 := NB452_451.out
      have hs29 : w26.cell? ⟨gb452, 1, none⟩ = some (.slice Ao25 x453001_1.length co25) := (blk_cell BK452.out 1).trans rfl
      have hfs29 := blk_frozen BK452.out 1
      have hns29_0 := NB449_452.out
      have hns29_1 := NB450_452.out
      have hns29_2 := NB451_452.out
      have hms29_0 := NB452_449.out
      have hms29_1 := NB452_450.out
      have hms29_2 := NB452_451.out
      refine skip_ (w1 := ?_) (by rfl) rfl ?_ ?_
      rotate_left
      ·go_simp
       rfl
      refine hK.out _ _ ?_
      clear hK K
      refine done_ (done_of HT_.out (by kernel_rfl)) ?_
      try go_wp2
      go_roundg k1
      case measure => have := HK1.out; omega
      case rel => exact ⟨(wrap64 (x6_1 + 1)), (t454), (t455), (.slice Ao28 t455.length co28), zq29xx_12, H', ⟨by have := HK1.out; omega⟩, ⟨by (with_reducible repeat (first | apply Kd.R_alloc | apply Kd.R_drewN | apply Kd.R_drew)); exact Kd.R_mono (Kd.R_far (p := ⟨gb452, 1, none⟩) (Kd.R_far (p := ⟨gb452, 0, none⟩) (Kd.R_types HO457.out BK452.out (by decide)) (fun _ hk => hk.2) (.int .i64 t454)) (fun _ hk => hk.2) (.slice Ao28 t455.length co28)) (fun _ hk => trivial)⟩, ⟨by (with_reducible repeat (first | refine blk_drewN ?_ _ | refine blk_drew ?_ | refine blk_alloc ?_ _)); refine blk_far ?_ NB449_452.out _; (with_reducible repeat (first | refine blk_drewN ?_ _ | refine blk_drew ?_ | refine blk_alloc ?_ _)); refine blk_far ?_ NB449_452.out _; (with_reducible repeat (first | refine blk_drewN ?_ _ | refine blk_drew ?_ | refine blk_alloc ?_ _)); exact BK449.out⟩, ⟨by (with_reducible repeat (first | refine blk_drewN ?_ _ | refine blk_drew ?_ | refine blk_alloc ?_ _)); refine blk_far ?_ NB450_452.out _; (with_reducible repeat (first | refine blk_drewN ?_ _ | refine blk_drew ?_ | refine blk_alloc ?_ _)); refine blk_far ?_ NB450_452.out _; (with_reducible repeat (first | refine blk_drewN ?_ _ | refine blk_drew ?_ | refine blk_alloc ?_ _)); exact BK450.out⟩, ⟨by (with_reducible repeat (first | refine blk_drewN ?_ _ | refine blk_drew ?_ | refine blk_alloc ?_ _)); refine blk_far ?_ NB451_452.out _; (with_reducible repeat (first | refine blk_drewN ?_ _ | refine blk_drew ?_ | refine blk_alloc ?_ _)); refine blk_far ?_ NB451_452.out _; (with_reducible repeat (first | refine blk_drewN ?_ _ | refine blk_drew ?_ | refine blk_alloc ?_ _)); exact BK451.out⟩, ⟨by (with_reducible repeat (first | refine blk_drewN ?_ _ | refine blk_drew ?_ | refine blk_alloc ?_ _)); refine blk_put (cs := #[.int .i64 t454, .slice Ao25 x453001_1.length co25]) ?_ 1 _ rfl; (with_reducible repeat (first | refine blk_drewN ?_ _ | refine blk_drew ?_ | refine blk_alloc ?_ _)); refine blk_put (cs := #[.int .i64 x453000_1, .slice Ao25 x453001_1.length co25]) ?_ 0 _ rfl; (with_reducible repeat (first | refine blk_drewN ?_ _ | refine blk_drew ?_ | refine blk_alloc ?_ _)); exact BK452.out⟩, ⟨by repeat (first | (with_reducible first | exact HB.out | apply below_alloc | apply pw_below_drewN | apply below_drew1 | refine below_set ?_ GE449.out | refine below_set ?_ GE450.out | refine below_set ?_ GE451.out | refine below_set ?_ GE452.out) | exact HB.out)⟩⟩
     ·rw [if_neg c18] at H
      exact absurd H (by simp)
    ·rw [if_neg c17] at H
     have c17b0 : decide (x6_1 < (l0_1.length : Int)) = false := decide_eq_false c17
     clear c17
     have H' := Aside0.mk H
     clear H
     have hnb30 := NB449_450.out
     have hnc30 := NB450_449.out
     have hnb31 := NB449_451.out
     have hnc31 := NB451_449.out
     have hnb32 := NB449_452.out
     have hnc32 := NB452_449.out
     have hcz33_0 : wr.cell? ⟨gb449, 0, none⟩ = some (.int .i64 a0_0) := (blk_cell BK449.out 0).trans rfl
     have hcz33_1 : wr.cell? ⟨gb449, 1, none⟩ = some (.slice A0_1 l0_1.length c0_1) := (blk_cell BK449.out 1).trans rfl
     have hfz33_0 := blk_frozen BK449.out 0
     have hfz33_1 := blk_frozen BK449.out 1
     go_wp2
     go_loopg [7] k1 (fun kq v7 w' => ∃ (x7_2 : Int) (x453000_2 : Int) (x453001_2 : List Int) (u453001 : Value), v7 = .int .i64 x7_2 ∧ Aside0 (cenotaphref02_Union_f.l1 kq x7_2 a1_0 l1_1 x453000_2 x453001_2 = some (r1, r2)) ∧ Aside0 (kq ≤ k1) ∧ Aside0 (Kd.R (Kd.int .i64) 3 w' w.heap.size (fun _ => True) u453001 x453001_2) ∧ Aside0 (w'.heap[gb449]? = some (.cells #[.int .i64 a0_0, (.slice A0_1 l0_1.length c0_1)] 30 (0, 0))) ∧ Aside0 (w'.heap[gb450]? = some (.cells #[.int .i64 a1_0, (.slice A1_1 l1_1.length c1_1)] 30 (0, 0))) ∧ Aside0 (w'.heap[gb451]? = some (.cells #[.int .i64 0, (.slice none 0 0)] 30 (0, 0))) ∧ Aside0 (w'.heap[gb452]? = some (.cells #[.int .i64 x453000_2, u453001] 30 (0, 0))) ∧ Aside0 (Below w.heap.size w w'))
     case atStart => exact ⟨(0), (x453000_1), (x453001_1), (u453001), zq29xx_12, H', ⟨Nat.le_refl _⟩, ⟨by (with_reducible repeat (first | apply Kd.R_alloc | apply Kd.R_drewN | apply Kd.R_drew)); exact HO_453001.out⟩, ⟨by (with_reducible repeat (first | refine blk_drewN ?_ _ | refine blk_drew ?_ | refine blk_alloc ?_ _)); exact BK449.out⟩, ⟨by (with_reducible repeat (first | refine blk_drewN ?_ _ | refine blk_drew ?_ | refine blk_alloc ?_ _)); exact BK450.out⟩, ⟨by (with_reducible repeat (first | refine blk_drewN ?_ _ | refine blk_drew ?_ | refine blk_alloc ?_ _)); exact BK451.out⟩, ⟨by (with_reducible repeat (first | refine blk_drewN ?_ _ | refine blk_drew ?_ | refine blk_alloc ?_ _)); exact BK452.out⟩, ⟨by repeat (first | (with_reducible first | exact HB.out | apply below_alloc | apply pw_below_drewN | apply below_drew1 | refine below_set ?_ GE449.out | refine below_set ?_ GE450.out | refine below_set ?_ GE451.out | refine below_set ?_ GE452.out) | exact HB.out)⟩⟩
     case round =>
      clear H'
      try clear c1
      try clear c2
      try clear p2
      try clear c3
      try clear c3b0
      try clear p4
      try clear q4
      try clear hx4
      try clear p6
      try clear c7
      try clear c8
      try clear c10
      try clear c13
      try clear c14
      try clear c15
      try clear c17
      try clear c17b0
      try clear c18
      try clear c18b0
      try clear c19
      try clear c20
      try clear c21
      try clear c22
      try clear c29
      try clear c30
      try clear c31
      try clear c32
      try clear hcz11_0
      try clear hcz11_1
      try clear hcz16_0
      try clear hcz16_1
      try clear hcz23_0
      try clear hcz23_1
      try clear hcz33_0
      try clear hcz33_1
      try clear hcz9_0
      try clear hcz9_1
      try clear hfz11_0
      try clear hfz11_1
      try clear hfz16_0
      try clear hfz16_1
      try clear hfz23_0
      try clear hfz23_1
      try clear hfz33_0
      try clear hfz33_1
      try clear hfz9_0
      try clear hfz9_1
      try clear hx453_0
      try clear p2
      try clear p453
      try clear q453
      obtain ⟨x7_2, x453000_2, x453001_2, u453001, rfl, HA, HK2, HO_453001, BK449, BK450, BK451, BK452, HB⟩ := hrel
      cases gk with
      | zero => exact absurd HA.out (by simp [cenotaphref02_Union_f.l1])
      | succ k2 =>
       have H := HA.out
       clear HA
       simp only [cenotaphref02_Union_f.l1] at H
       by_cases c34 : x7_2 < (l1_1.length : Int)
       ·rw [if_pos c34] at H
        have c34b0 : decide (x7_2 < (l1_1.length : Int)) = true := decide_eq_true c34
        clear c34
        by_cases c35 : 0 ≤ x7_2
        ·rw [if_pos c35] at H
         have c35b0 : decide (0 ≤ x7_2) = true := decide_eq_true c35
         clear c35
         replace H := Option.bind_eq_some_iff.mp H
         obtain ⟨⟨t459, t460⟩, A360, H⟩ := H
         replace H : (cenotaphref02_Union_f.l1 k2 (wrap64 (x7_2 + 1)) a1_0 l1_1 t459 t460) = some (r1, r2) := H
         have A36 := Aside0.mk A360
         clear A360
         have H' := Aside0.mk H
         clear H
         have hnb37 := NB450_449.out
         have hnc37 := NB449_450.out
         have hnb38 := NB450_451.out
         have hnc38 := NB451_450.out
         have hnb39 := NB450_452.out
         have hnc39 := NB452_450.out
         have hcz40_0 : wr.cell? ⟨gb450, 0, none⟩ = some (.int .i64 a1_0) := (blk_cell BK450.out 0).trans rfl
         have hcz40_1 : wr.cell? ⟨gb450, 1, none⟩ = some (.slice A1_1 l1_1.length c1_1) := (blk_cell BK450.out 1).trans rfl
         have hfz40_0 := blk_frozen BK450.out 0
         have hfz40_1 := blk_frozen BK450.out 1
         try go_wp2
         replace HO_453001 := Aside0.mk (Kd.R_drew HO_453001.out)
         replace BK449 := Aside0.mk (blk_drew BK449.out)
         replace BK450 := Aside0.mk (blk_drew BK450.out)
         replace BK451 := Aside0.mk (blk_drew BK451.out)
         replace BK452 := Aside0.mk (blk_drew BK452.out)
         replace HB := Aside0.mk (below_drew1 HB.out)
         have p458 : 0 ≤ (x7_2 : Int) := of_decide_eq_true zq29xx_11
         have q458 : x7_2 < (l1_1.length : Int) := of_decide_eq_true zq29xx_11
         obtain ⟨ad458, e458, hx458_0⟩ := Kd.at_int HR1_1.out x7_2 p458 q458
         have hw458_0 := hx458_0
         cases e458
         replace hx458_0 := (HB.out.cell (World.block_lt_of_cell? w _ hx458_0)).trans hx458_0
         replace p458 := eq_true p458
         replace q458 := eq_true q458
         obtain ⟨Ao42, co42, eo42⟩ := Kd.R_slice HO_453001.out
         (first | subst eo42 | (injection eo42 with f1_ f2_ f3_; have f4_ := f1_.symm; have f5_ := f3_.symm; clear f1_ f2_ f3_; subst f4_; subst f5_))
         refine start_ (n := 8) (S := fun w' => w'.cell? ⟨gb452, 0, none⟩ = some (.int .i64 x453000_2) ∧ w'.cell? ⟨gb452, 1, none⟩ = some (.slice Ao42 x453001_2.length co42) ∧ w'.cell? ⟨gb450, 0, none⟩ = some (.int .i64 a1_0) ∧ w'.cell? ⟨gb450, 1, none⟩ = some (.slice (some ad458) l1_1.length c1_1) ∧ w'.cell? (ad458.add (x7_2).toNat) = some (.int .i64 (rd l1_1 x7_2))) (ds := [7]) #[false, false, false, false, false, false, false, false] (by kernel_rfl) rfl rfl ⟨(blk_cell BK452.out 0).trans rfl, (blk_cell BK452.out 1).trans rfl, (blk_cell BK450.out 0).trans rfl, (blk_cell BK450.out 1).trans rfl, ((HB.out.cell (World.block_lt_of_cell? w _ hw458_0)).trans hw458_0)⟩ (fun hHeld => ?_); refine with_tabW cenotaphref02_Union_f.tab11 cenotaphref02_Union_f.bits11 (fun HT_ HW_ => ?_)
         generalize wr.drew = w41 at HO_453001 BK449 BK450 BK451 BK452 HB hx458_0 hHeld ⊢
         refine pure_ (i := 1) (N := some 40) (v := ?_) (a' := ?_) #[false, true, false, false, false, false, false, false] rfl rfl (any_of HT_.out (by kernel_rfl)) (fun _ _ _ h => h) (Or.inl ⟨by rfl, ?_⟩) ?_ ?_
         rotate_left
         ·intro w'
          go_simp
          with_reducible rfl
         rotate_left
         ·simp only [Act.put, List.setIfInBounds_toArray, List.set_cons_zero, List.set_cons_succ, i64_w, i32_w]
          rfl
         refine pure_ (i := 3) (N := some 42) (v := ?_) (a' := ?_) #[false, true, false, true, false, false, false, false] rfl rfl (any_of HT_.out (by kernel_rfl)) (fun _ _ _ h => h) (Or.inl ⟨by rfl, ?_⟩) ?_ ?_
         rotate_left
         ·intro w'
          go_simp
          with_reducible rfl
         rotate_left
         ·simp only [Act.put, List.setIfInBounds_toArray, List.set_cons_zero, List.set_cons_succ, i64_w, i32_w]
          rfl
         refine take_ (i := 0) (N := some 39) (v := ?_) (a' := ?_) #[true, true, false, true, false, false, false, false] rfl rfl (take_ofW HT_.out HW_.out (by kernel_rfl)) (fun _ _ _ h => h) (Or.inl ⟨by rfl, ?_⟩) hHeld ?_ ?_
         rotate_left
         ·rintro w' ⟨s0, s1, s2, s3, s4⟩
          go_simp
          with_reducible rfl
         rotate_left
         ·simp only [Act.put, List.setIfInBounds_toArray, List.set_cons_zero, List.set_cons_succ, i64_w, i32_w]
          rfl
         refine take_ (i := 2) (N := some 41) (v := ?_) (a' := ?_) #[true, true, true, true, false, false, false, false] rfl rfl (take_ofW HT_.out HW_.out (by kernel_rfl)) (fun _ _ _ h => h) (Or.inl ⟨by rfl, ?_⟩) hHeld ?_ ?_
         rotate_left
         ·rintro w' ⟨s0, s1, s2, s3, s4⟩
          go_simp
          with_reducible rfl
         rotate_left
         ·simp only [Act.put, List.setIfInBounds_toArray, List.set_cons_zero, List.set_cons_succ, i64_w, i32_w]
          rfl
         refine pure_ (i := 4) (N := some 43) (v := ?_) (a' := ?_) #[true, true, true, true, true, false, false, false] rfl rfl (any_of HT_.out (by kernel_rfl)) (fun _ _ _ h => h) (Or.inl ⟨by rfl, ?_⟩) ?_ ?_
         rotate_left
         ·intro w'
          go_simp
          with_reducible rfl
         rotate_left
         ·simp only [Act.put, List.setIfInBounds_toArray, List.set_cons_zero, List.set_cons_succ, i64_w, i32_w]
          rfl
         refine take_ (i := 5) (N := some 44) (v := ?_) (a' := ?_) #[true, true, true, true, true, true, false, false] rfl rfl (take_ofW HT_.out HW_.out (by kernel_rfl)) (fun _ _ _ h => h) (Or.inl ⟨by rfl, ?_⟩) hHeld ?_ ?_
         rotate_left
         ·rintro w' ⟨s0, s1, s2, s3, s4⟩
          go_simp
          with_reducible rfl
         rotate_left
         ·simp only [Act.put, List.setIfInBounds_toArray, List.set_cons_zero, List.set_cons_succ, i64_w, i32_w]
          rfl
         refine one_ (i := 6) (N := some 45) #[true, true, true, true, true, true, true, false] rfl rfl (one_of HT_.out (by kernel_rfl)) (by decide) (fun K hK => ?_)
         refine goes_ Try.func19 (by kernel_rfl) rfl #[.agg #[.int .i64 x453000_2, .slice Ao42 x453001_2.length co42], .int .i64 (rd l1_1 x7_2)] (by rfl) rfl rfl (by (try simp only [List.map_toArray, List.map_cons, List.map_nil]); first | done | rfl | (simp only [List.length_drop, List.length_take]; rfl)) ?_
         with_reducible refine (cenotaphref02_Add.calls k2 x453000_2 _ _ x453001_2 (rd l1_1 x7_2) t459 t460 _ ?side1 ?side2 A36.out).mono ?_
         (case side1 => repeat (first | exact (Kd.R_reads' HO_453001.out).2.2 | (with_reducible refine Kd.C_alloc ?_ _) | (with_reducible refine Kd.C_drewN ?_ _) | (with_reducible refine Kd.C_drew ?_)))
         (case side2 => exact (Kd.R_reads' HO_453001.out).2.1)
         rintro e w43 ⟨v461, rfl, ho0, hb⟩
         refine ⟨_, rfl, ?_⟩
         have HO462 := Aside0.mk (Kd.R_lower (Kd.R_new' ho0 (Kd.R_lt zq29xx_10)) (below_size zq29xx_0))
         replace HO_453001 := Aside0.mk (Kd.R_elder' zq29xx_10 (Kd.R_base ho0) hb)
         replace BK449 := Aside0.mk (blk_below (g := gb449) (o := .cells #[.int .i64 a0_0, .slice A0_1 l0_1.length c0_1] 30 (0, 0)) zq29xx_7 hb)
         replace BK450 := Aside0.mk (blk_below (g := gb450) (o := .cells #[.int .i64 a1_0, .slice (some ad458) l1_1.length c1_1] 30 (0, 0)) zq29xx_8 hb)
         replace BK451 := Aside0.mk (blk_below (g := gb451) (o := .cells #[.int .i64 0, .slice none 0 0] 30 (0, 0)) zq29xx_9 hb)
         replace BK452 := Aside0.mk (blk_below (g := gb452) (o := .cells #[.int .i64 x453000_2, .slice Ao42 x453001_2.length co42] 30 (0, 0)) (by (with_reducible repeat (first | refine blk_drewN ?_ _ | refine blk_drew ?_ | refine blk_alloc ?_ _)); exact BK452.out) hb)
         replace HB := Aside0.mk (below_step zq29xx_0 hb)
         (try clear hb)
         (try clear hb2)
         (try clear hk)
         (try clear hi)
         (try clear ho0)
         obtain ⟨Ao45, co45, eo45⟩ := Kd.R_slice HO462.out
         (first | subst eo45 | (injection eo45 with f1_ f2_ f3_; have f4_ := f1_.symm; have f5_ := f3_.symm; clear f1_ f2_ f3_; subst f4_; subst f5_))
         refine hK.out _ _ ⟨(blk_cell BK452.out 0).trans rfl, (blk_cell BK452.out 1).trans rfl, (blk_cell BK450.out 0).trans rfl, (blk_cell BK450.out 1).trans rfl, ((HB.out.cell (World.block_lt_of_cell? w _ hw458_0)).trans hw458_0)⟩ (fun hHeld => ?_)
         clear hK K
         refine norm_ (a' := ?_) ?_ ?_
         rotate_left
         ·show Act.put _ (some 45) _ = _
          simp only [Act.put, List.setIfInBounds_toArray, List.set_cons_zero, List.set_cons_succ, i64_w, i32_w]
          rfl
         refine last_ (i := 7) (N := none) #[true, true, true, true, true, true, true, true] rfl rfl (one_of HT_.out (by kernel_rfl)) (by decide) (fun K hK => ?_)
         have hs44 : w43.cell? ⟨gb452, 0, none⟩ = some (.int .i64 x453000_2) := (blk_cell BK452.out 0).trans rfl
         have hfs44 := blk_frozen BK452.out 0
         have hns44_0 := NB449_452.out
         have hns44_1 := NB450_452.out
         have hns44_2 := NB451_452.out
         have hms44_0 := NB452_449.out
         have hms44_1 := NB452_450.out
         have hms44_2 := NB452_451.out
         have hs46 : w43.cell? ⟨gb452, 1, none⟩ = some (.slice Ao42 x453001_2.length co42) := (blk_cell BK452.out 1).trans rfl
         have hfs46 := blk_frozen BK452.out 1
         have hns46_0 := NB449_452.out
         have hns46_1 := NB450_452.out
         have hns46_2 := NB451_452.out
         have hms46_0 := NB452_449.out
         have hms46_1 := NB452_450.out
         have hms46_2 := NB452_451.out
         refine skip_ (w1 := ?_) (by rfl) rfl ?_ ?_
         rotate_left
         ·go_simp
          rfl
         refine hK.out _ _ ?_
         clear hK K
         refine done_ (done_of HT_.out (by kernel_rfl)) ?_
         try go_wp2
         go_roundg k2
         case measure => have := HK1.out; have := HK2.out; omega
         case rel => exact ⟨(wrap64 (x7_2 + 1)), (t459), (t460), (.slice Ao45 t460.length co45), zq29xx_12, H', ⟨by have := HK1.out; have := HK2.out; omega⟩, ⟨by (with_reducible repeat (first | apply Kd.R_alloc | apply Kd.R_drewN | apply Kd.R_drew)); exact Kd.R_mono (Kd.R_far (p := ⟨gb452, 1, none⟩) (Kd.R_far (p := ⟨gb452, 0, none⟩) (Kd.R_types HO462.out BK452.out (by decide)) (fun _ hk => hk.2) (.int .i64 t459)) (fun _ hk => hk.2) (.slice Ao45 t460.length co45)) (fun _ hk => trivial)⟩, ⟨by (with_reducible repeat (first | refine blk_drewN ?_ _ | refine blk_drew ?_ | refine blk_alloc ?_ _)); refine blk_far ?_ NB449_452.out _; (with_reducible repeat (first | refine blk_drewN ?_ _ | refine blk_drew ?_ | refine blk_alloc ?_ _)); refine blk_far ?_ NB449_452.out _; (with_reducible repeat (first | refine blk_drewN ?_ _ | refine blk_drew ?_ | refine blk_alloc ?_ _)); exact BK449.out⟩, ⟨by (with_reducible repeat (first | refine blk_drewN ?_ _ | refine blk_drew ?_ | refine blk_alloc ?_ _)); refine blk_far ?_ NB450_452.out _; (with_reducible repeat (first | refine blk_drewN ?_ _ | refine blk_drew ?_ | refine blk_alloc ?_ _)); refine blk_far ?_ NB450_452.out _; (with_reducible repeat (first | refine blk_drewN ?_ _ | refine blk_drew ?_ | refine blk_alloc ?_ _)); exact BK450.out⟩, ⟨by (with_reducible repeat (first | refine blk_drewN ?_ _ | refine blk_drew ?_ | refine blk_alloc ?_ _)); refine blk_far ?_ NB451_452.out _; (with_reducible repeat (first | refine blk_drewN ?_ _ | refine blk_drew ?_ | refine blk_alloc ?_ _)); refine blk_far ?_ NB451_452.out _; (with_reducible repeat (first | refine blk_drewN ?_ _ | refine blk_drew ?_ | refine blk_alloc ?_ _)); exact BK451.out⟩, ⟨by (with_reducible repeat (first | refine blk_drewN ?_ _ | refine blk_drew ?_ | refine blk_alloc ?_ _)); refine blk_put (cs := #[.int .i64 t459, .slice Ao42 x453001_2.length co42]) ?_ 1 _ rfl; (with_reducible repeat (first | refine blk_drewN ?_ _ | refine blk_drew ?_ | refine blk_alloc ?_ _)); refine blk_put (cs := #[.int .i64 x453000_2, .slice Ao42 x453001_2.length co42]) ?_ 0 _ rfl; (with_reducible repeat (first | refine blk_drewN ?_ _ | refine blk_drew ?_ | refine blk_alloc ?_ _)); exact BK452.out⟩, ⟨by repeat (first | (with_reducible first | exact HB.out | apply below_alloc | apply pw_below_drewN | apply below_drew1 | refine below_set ?_ GE449.out | refine below_set ?_ GE450.out | refine below_set ?_ GE451.out | refine below_set ?_ GE452.out) | exact HB.out)⟩⟩
        ·rw [if_neg c35] at H
         exact absurd H (by simp)
       ·rw [if_neg c34] at H
        have c34b0 : decide (x7_2 < (l1_1.length : Int)) = false := decide_eq_false c34
        clear c34
        simp only [Option.some.injEq, Prod.mk.injEq] at H
        obtain ⟨rfl, rfl⟩ := H
        have hnb47 := NB450_449.out
        have hnc47 := NB449_450.out
        have hnb48 := NB450_451.out
        have hnc48 := NB451_450.out
        have hnb49 := NB450_452.out
        have hnc49 := NB452_450.out
        have hcz50_0 : wr.cell? ⟨gb450, 0, none⟩ = some (.int .i64 a1_0) := (blk_cell BK450.out 0).trans rfl
        have hcz50_1 : wr.cell? ⟨gb450, 1, none⟩ = some (.slice A1_1 l1_1.length c1_1) := (blk_cell BK450.out 1).trans rfl
        have hfz50_0 := blk_frozen BK450.out 0
        have hfz50_1 := blk_frozen BK450.out 1
        have hnb51 := NB452_449.out
        have hnc51 := NB449_452.out
        have hnb52 := NB452_451.out
        have hnc52 := NB451_452.out
        have hcz53_0 : wr.cell? ⟨gb452, 0, none⟩ = some (.int .i64 x453000_2) := (blk_cell BK452.out 0).trans rfl
        have hcz53_1 : wr.cell? ⟨gb452, 1, none⟩ = some (u453001) := (blk_cell BK452.out 1).trans rfl
        have hfz53_0 := blk_frozen BK452.out 0
        have hfz53_1 := blk_frozen BK452.out 1
        have hnb54 := NB451_449.out
        have hnc54 := NB449_451.out
        have hcz55_0 : wr.cell? ⟨gb451, 0, none⟩ = some (.int .i64 0) := (blk_cell BK451.out 0).trans rfl
        have hcz55_1 : wr.cell? ⟨gb451, 1, none⟩ = some (.slice none 0 0) := (blk_cell BK451.out 1).trans rfl
        have hfz55_0 := blk_frozen BK451.out 0
        have hfz55_1 := blk_frozen BK451.out 1
        obtain ⟨Ao56, co56, eo56⟩ := Kd.R_slice HO_453001.out
        subst eo56
        go_wp2
        refine bodyPost_ret (results_cell_row rfl _ _ gb451 30 #[.int .i64 x453000_2, .slice Ao56 x453001_2.length co56] (0, 0) _ rfl (by (with_reducible repeat (first | refine blk_drewN ?_ _ | refine blk_drew ?_ | refine blk_alloc ?_ _)); refine blk_put (cs := #[.int .i64 x453000_2, .slice none 0 0]) ?_ 1 _ rfl; (with_reducible repeat (first | refine blk_drewN ?_ _ | refine blk_drew ?_ | refine blk_alloc ?_ _)); refine blk_put (cs := #[.int .i64 0, .slice none 0 0]) ?_ 0 _ rfl; (with_reducible repeat (first | refine blk_drewN ?_ _ | refine blk_drew ?_ | refine blk_alloc ?_ _)); exact BK451.out) Try.underlying30 rfl (by kernel_rfl)) rfl ?_
        exact ⟨_, by first | rfl | (simp [errW_none, errW_some] <;> rfl) | (simp [*, errW_none, errW_some] <;> rfl), by (with_reducible repeat (first | apply Kd.R_alloc | apply Kd.R_drewN | apply Kd.R_drew)); exact Kd.R_mono (Kd.R_far (p := ⟨gb451, 1, none⟩) (Kd.R_far (p := ⟨gb451, 0, none⟩) (Kd.R_types HO_453001.out BK451.out (by decide)) (fun _ hk => hk.2) (.int .i64 x453000_2)) (fun _ hk => hk.2) (.slice Ao56 x453001_2.length co56)) (fun _ hk => trivial), by repeat (first | (with_reducible first | exact HB.out | apply below_alloc | apply pw_below_drewN | apply below_drew1 | refine below_set ?_ GE449.out | refine below_set ?_ GE450.out | refine below_set ?_ GE451.out | refine below_set ?_ GE452.out) | exact HB.out)⟩

def cenotaphref02_Union.f (k : Nat) (a0_0 : Int) (l0_1 : List Int) (a1_0 : Int) (l1_1 : List Int) : Option (Int × List Int) := if a1_0 > a0_0 then (cenotaphref02_Union_t.f k a0_0 l0_1 a1_0 l1_1) else (cenotaphref02_Union_f.f k a0_0 l0_1 a1_0 l1_1)
theorem cenotaphref02_Union.mono : ∀ a0 a1 a2 a3 k, LeO (cenotaphref02_Union.f k a0 a1 a2 a3) (cenotaphref02_Union.f (k + 1) a0 a1 a2 a3) := by
  intro a0 a1 a2 a3 k
  unfold cenotaphref02_Union.f
  exact LeO.ite (cenotaphref02_Union_t.mono _ _ _ _ _ ) (cenotaphref02_Union_f.mono _ _ _ _ _ )
theorem cenotaphref02_Union.calls (k : Nat) (a0_0 : Int) (A0_1 : Option Addr) (c0_1 : Nat) (l0_1 : List Int) (a1_0 : Int) (A1_1 : Option Addr) (c1_1 : Nat) (l1_1 : List Int) (r1 : Int) (r2 : List Int) (w : World) (hr0_1 : Kd.C (Kd.int .i64) w A0_1 l0_1.length l0_1) (hc0_1 : l0_1.length ≤ c0_1) (hr1_1 : Kd.C (Kd.int .i64) w A1_1 l1_1.length l1_1) (hc1_1 : l1_1.length ≤ c1_1) (h : cenotaphref02_Union.f k a0_0 l0_1 a1_0 l1_1 = some (r1, r2)) :
  Calls Try.prog 29 #[.agg #[.int .i64 a0_0, .slice A0_1 l0_1.length c0_1], .agg #[.int .i64 a1_0, .slice A1_1 l1_1.length c1_1]] w fun e w' => ∃ v1_ : Value, e = .returned (.agg #[.int .i64 r1, v1_]) ∧ Kd.R (Kd.int .i64) 3 w' w.heap.size (fun _ => True) v1_ r2 ∧ Below w.heap.size w w' := by
  by_cases hc_ : a1_0 > a0_0
  · rw [cenotaphref02_Union.f, if_pos hc_] at h; exact cenotaphref02_Union_t.calls k a0_0 A0_1 c0_1 l0_1 a1_0 A1_1 c1_1 l1_1 r1 r2 w hr0_1 hc0_1 hr1_1 hc1_1 h
  · rw [cenotaphref02_Union.f, if_neg hc_] at h; exact cenotaphref02_Union_f.calls k a0_0 A0_1 c0_1 l0_1 a1_0 A1_1 c1_1 l1_1 r1 r2 w hr0_1 hc0_1 hr1_1 hc1_1 h

/-! ### cenotaphref02_Within: function 30 -/
theorem zq30_0 {p_ : Prop} (h_ : p_ := by repeat (first | (with_reducible first | exact HB.out | apply below_alloc | apply pw_below_drewN | apply below_drew1 | refine below_set ?_ GE463.out | refine below_set ?_ GE464.out) | exact HB.out)) : p_ := h_
theorem zq30_1 {p_ : Prop} (h_ : p_ := by repeat (first | (with_reducible first | exact HB.out | apply below_alloc | apply pw_below_drewN | apply below_drew1 | refine below_set ?_ GE463.out) | exact HB.out)) : p_ := h_
theorem zq30_2 {p_ : Prop} (h_ : p_ := by (try simp only [List.map_toArray, List.map_cons, List.map_nil]); first | done | rfl | (simp only [List.length_drop, List.length_take]; rfl)) : p_ := h_
theorem zq30_3 {p_ : Prop} (h_ : p_ := by repeat (first | (with_reducible first | exact HB.out | apply below_alloc | apply pw_below_drewN | apply below_drew1) | exact HB.out)) : p_ := h_
theorem zq30_4 {p_ : Prop} (h_ : p_ := by (with_reducible repeat (first | refine blk_drewN ?_ _ | refine blk_drew ?_ | refine blk_alloc ?_ _)); exact BK463.out) : p_ := h_
theorem zq30_5 {p_ : Prop} (h_ : p_ := by (with_reducible repeat (first | refine blk_drewN ?_ _ | refine blk_drew ?_ | refine blk_alloc ?_ _)); exact BK464.out) : p_ := h_
theorem zq30_6 {p_ : Prop} (h_ : p_ := by first | (with_reducible assumption) | assumption) : p_ := h_
theorem zq30_7 {p_ : Prop} (h_ : p_ := by first | rfl | (simp; done) | (simp [*]; done)) : p_ := h_
mutual
def cenotaphref02_Within.l0 : Nat → Int → Int → List Int → Int → List Int → Option (Bool)
 | 0, _, _, _, _, _ => none
 | k + 1, x5, x464000, x464001, x465000, x465001 => if x5 ≤ x464000 then ((cenotaphref02_Has.f k x465000 x465001 x5).bind fun t465 => (if t465 = true then (if x5 > (wrap64 (x465000 + 5000)) then (some false) else (cenotaphref02_Within.l0 k (wrap64 (x5 + 1)) x464000 x464001 x465000 x465001)) else (some false))) else (cenotaphref02_Within.l1 k 0 x464000 x464001 x465000 x465001)
def cenotaphref02_Within.l1 : Nat → Int → Int → List Int → Int → List Int → Option (Bool)
 | 0, _, _, _, _, _ => none
 | k + 1, x6, x464000, x464001, x465000, x465001 => if x6 < (x464001.length : Int) then (if 0 ≤ x6 then ((cenotaphref02_Has.f k x465000 x465001 (rd x464001 x6)).bind fun t467 => (if t467 = true then (cenotaphref02_Within.l1 k (wrap64 (x6 + 1)) x464000 x464001 x465000 x465001) else (some false))) else (none)) else (some true)
end
def cenotaphref02_Within.f (k : Nat) (a0_0 : Int) (l0_1 : List Int) (a1_0 : Int) (l1_1 : List Int) : Option (Bool) := cenotaphref02_Within.l0 k (wrap64 (a1_0 + 1)) a0_0 l0_1 a1_0 l1_1
theorem cenotaphref02_Within.mono_l : ∀ k, (∀ y0 y1 y2 y3 y4, LeO (cenotaphref02_Within.l0 k y0 y1 y2 y3 y4) (cenotaphref02_Within.l0 (k + 1) y0 y1 y2 y3 y4)) ∧ (∀ y0 y1 y2 y3 y4, LeO (cenotaphref02_Within.l1 k y0 y1 y2 y3 y4) (cenotaphref02_Within.l1 (k + 1) y0 y1 y2 y3 y4))
 | 0 => ⟨fun _ _ _ _ _ r h => by simp [cenotaphref02_Within.l0] at h, fun _ _ _ _ _ r h => by simp [cenotaphref02_Within.l1] at h⟩
 | k + 1 => by
  obtain ⟨ih0, ih1⟩ := cenotaphref02_Within.mono_l k
  refine ⟨?_, ?_⟩
  ·intro y0 y1 y2 y3 y4
   unfold cenotaphref02_Within.l0
   repeat' first
   | (with_reducible exact ih0 _ _ _ _ _)
   | (with_reducible exact ih1 _ _ _ _ _)
   | (with_reducible exact cenotaphref02_Has.mono _ _ _ _)
   | (with_reducible exact LeO.refl _)
   | (with_reducible exact LeO.none _)
   | (with_reducible refine LeO.ite ?_ ?_)
   | (with_reducible refine LeO.bind ?_ (fun _ => ?_))
   | exact ih0 _ _ _ _ _
   | exact ih1 _ _ _ _ _
   | exact cenotaphref02_Has.mono _ _ _ _
   | exact LeO.none _
   | refine LeO.ite ?_ ?_
   | refine LeO.bind ?_ (fun _ => ?_)
  ·intro y0 y1 y2 y3 y4
   unfold cenotaphref02_Within.l1
   repeat' first
   | (with_reducible exact ih0 _ _ _ _ _)
   | (with_reducible exact ih1 _ _ _ _ _)
   | (with_reducible exact cenotaphref02_Has.mono _ _ _ _)
   | (with_reducible exact LeO.refl _)
   | (with_reducible exact LeO.none _)
   | (with_reducible refine LeO.ite ?_ ?_)
   | (with_reducible refine LeO.bind ?_ (fun _ => ?_))
   | exact ih0 _ _ _ _ _
   | exact ih1 _ _ _ _ _
   | exact cenotaphref02_Has.mono _ _ _ _
   | exact LeO.none _
   | refine LeO.ite ?_ ?_
   | refine LeO.bind ?_ (fun _ => ?_)
theorem cenotaphref02_Within.mono : ∀ a0 a1 a2 a3 k, LeO (cenotaphref02_Within.f k a0 a1 a2 a3) (cenotaphref02_Within.f (k + 1) a0 a1 a2 a3) := by
 intro a0 a1 a2 a3 k
 obtain ⟨ih0, ih1⟩ := cenotaphref02_Within.mono_l k
 unfold cenotaphref02_Within.f
 repeat' first
   | (with_reducible exact ih0 _ _ _ _ _)
   | (with_reducible exact ih1 _ _ _ _ _)
   | (with_reducible exact cenotaphref02_Has.mono _ _ _ _)
   | (with_reducible exact LeO.refl _)
   | (with_reducible exact LeO.none _)
   | (with_reducible refine LeO.ite ?_ ?_)
   | (with_reducible refine LeO.bind ?_ (fun _ => ?_))
   | exact ih0 _ _ _ _ _
   | exact ih1 _ _ _ _ _
   | exact cenotaphref02_Has.mono _ _ _ _
   | exact LeO.none _
   | refine LeO.ite ?_ ?_
   | refine LeO.bind ?_ (fun _ => ?_)
def cenotaphref02_Within.T11 : Bool × List (List Nat × List Nat) := (true, [([], []), ([], []), ([1], [1]), ([], []), ([2, 3], [2, 3]), ([4], [4]), ([0, 5], [0, 5]), ([6], [6])])
def cenotaphref02_Within.B11 : List Nat := [0, 0, 2, 0, 14, 30, 63, 127]
theorem cenotaphref02_Within.tab11 : rtab .any (opsOf Try.f30 11) = cenotaphref02_Within.T11 := by kernel_rfl
theorem cenotaphref02_Within.bits11 : waitsOk cenotaphref02_Within.T11.2 cenotaphref02_Within.B11 = true := by kernel_rfl
set_option maxHeartbeats 8000000 in
set_option maxRecDepth 100000 in
theorem cenotaphref02_Within.calls (k : Nat) (a0_0 : Int) (A0_1 : Option Addr) (c0_1 : Nat) (l0_1 : List Int) (a1_0 : Int) (A1_1 : Option Addr) (c1_1 : Nat) (l1_1 : List Int) (r : Bool) (w : World) (hr0_1 : Kd.C (Kd.int .i64) w A0_1 l0_1.length l0_1) (hc0_1 : l0_1.length ≤ c0_1) (hr1_1 : Kd.C (Kd.int .i64) w A1_1 l1_1.length l1_1) (hc1_1 : l1_1.length ≤ c1_1) (h : cenotaphref02_Within.f k a0_0 l0_1 a1_0 l1_1 = some r) :
  Calls Try.prog 30 #[.agg #[.int .i64 a0_0, .slice A0_1 l0_1.length c0_1], .agg #[.int .i64 a1_0, .slice A1_1 l1_1.length c1_1]] w fun e w' => e = .returned (.bool r) ∧ Below w.heap.size w w' := by
 have hu30 := Try.underlying30
 have HR0_1 := Aside0.mk hr0_1
 have HC0_1 := Aside0.mk hc0_1
 clear hr0_1 hc0_1
 have HR1_1 := Aside0.mk hr1_1
 have HC1_1 := Aside0.mk hc1_1
 clear hr1_1 hc1_1
 have HB := Aside0.mk (Below.refl w.heap.size w)
 have H : (cenotaphref02_Within.l0 k (wrap64 (a1_0 + 1)) a0_0 l0_1 a1_0 l1_1) = some r := h
 clear h
 have H' := Aside0.mk H
 clear H
 go_enter Try.func30, Try.ntmps30
 go_wp2_with (first | ((with_reducible refine gate_dst (N := 2) rfl ?_); refine box_event ?hg (N := 2) ?hd (cs := #[.int .i64 a0_0, .slice A0_1 l0_1.length c0_1]) (t := 30) ?hr ?_; (case hd => rfl); (case hg => rfl); (case hr => first | (go_simp; done) | (go_simp; rfl)); intro gb463 hg w3 hbox hb; have n0_ := Aside0.mk (below_step zq30_3 hb); have n1_ := Aside0.mk (hbox); have n2_ := Aside0.mk (((by rw [hg]; exact (below_size zq30_3)) : w.heap.size ≤ gb463)); have n3_ := Aside0.mk (((by rw [hg]; exact (below_size zq30_3)) : w.heap.size ≤ gb463)); clear HB; have HB := n0_; have BK463 := n1_; have GW463 := n2_; have GE463 := n3_; clear n0_ n1_ n2_ n3_; clear hb hbox hg) | ((with_reducible refine gate_dst (N := 3) rfl ?_); refine box_event ?hg (N := 3) ?hd (cs := #[.int .i64 a1_0, .slice A1_1 l1_1.length c1_1]) (t := 30) ?hr ?_; (case hd => rfl); (case hg => rfl); (case hr => first | (go_simp; done) | (go_simp; rfl)); intro gb464 hg w4 hbox hb; have n0_ := Aside0.mk (blk_below (g := gb463) (o := .cells #[.int .i64 a0_0, .slice A0_1 l0_1.length c0_1] 30 (0, 0)) zq30_4 hb); have n1_ := Aside0.mk (below_step zq30_1 hb); have n2_ := Aside0.mk (hbox); have n3_ := Aside0.mk (((by rw [hg]; exact (below_size zq30_1)) : w.heap.size ≤ gb464)); have n4_ := Aside0.mk (((by rw [hg]; exact (below_size zq30_1)) : w.heap.size ≤ gb464)); have n5_ := Aside0.mk (((by rw [hg]; exact Nat.ne_of_lt (blk_lt (g := gb463) (o := .cells #[.int .i64 a0_0, .slice A0_1 l0_1.length c0_1] 30 (0, 0)) zq30_4)) : gb463 ≠ gb464)); have n6_ := Aside0.mk (((by rw [hg]; exact Nat.ne_of_gt (blk_lt (g := gb463) (o := .cells #[.int .i64 a0_0, .slice A0_1 l0_1.length c0_1] 30 (0, 0)) zq30_4)) : gb464 ≠ gb463)); clear BK463; clear HB; have BK463 := n0_; have HB := n1_; have BK464 := n2_; have GW464 := n3_; have GE464 := n4_; have NB463_464 := n5_; have NB464_463 := n6_; clear n0_ n1_ n2_ n3_ n4_ n5_ n6_; clear hb hbox hg; have hnb5 := NB464_463.out; have hnc5 := NB463_464.out; have hcz6_0 : w4.cell? ⟨gb464, 0, none⟩ = some (.int .i64 a1_0) := (blk_cell BK464.out 0).trans rfl; have hcz6_1 : w4.cell? ⟨gb464, 1, none⟩ = some (.slice A1_1 l1_1.length c1_1) := (blk_cell BK464.out 1).trans rfl; have hfz6_0 := blk_frozen BK464.out 0; have hfz6_1 := blk_frozen BK464.out 1))
 go_loopg [5] k (fun kq v5 w' => ∃ (x5_1 : Int), v5 = .int .i64 x5_1 ∧ Aside0 (cenotaphref02_Within.l0 kq x5_1 a0_0 l0_1 a1_0 l1_1 = some r) ∧ Aside0 (kq ≤ k) ∧ Aside0 (w'.heap[gb463]? = some (.cells #[.int .i64 a0_0, (.slice A0_1 l0_1.length c0_1)] 30 (0, 0))) ∧ Aside0 (w'.heap[gb464]? = some (.cells #[.int .i64 a1_0, (.slice A1_1 l1_1.length c1_1)] 30 (0, 0))) ∧ Aside0 (Below w.heap.size w w'))
 case atStart => exact ⟨(wrap64 (a1_0 + 1)), zq30_7, H', ⟨Nat.le_refl _⟩, ⟨by (with_reducible repeat (first | refine blk_drewN ?_ _ | refine blk_drew ?_ | refine blk_alloc ?_ _)); exact BK463.out⟩, ⟨by (with_reducible repeat (first | refine blk_drewN ?_ _ | refine blk_drew ?_ | refine blk_alloc ?_ _)); exact BK464.out⟩, ⟨by repeat (first | (with_reducible first | exact HB.out | apply below_alloc | apply pw_below_drewN | apply below_drew1 | refine below_set ?_ GE463.out | refine below_set ?_ GE464.out) | exact HB.out)⟩⟩
 case round =>
  clear H'
  try clear c1
  try clear p2
  try clear c3
  try clear c5
  try clear p6
  try clear hcz6_0
  try clear hcz6_1
  try clear hfz6_0
  try clear hfz6_1
  obtain ⟨x5_1, rfl, HA, HK1, BK463, BK464, HB⟩ := hrel
  cases gk with
  | zero => exact absurd HA.out (by simp [cenotaphref02_Within.l0])
  | succ k1 =>
   have H := HA.out
   clear HA
   simp only [cenotaphref02_Within.l0] at H
   by_cases c7 : x5_1 ≤ a0_0
   ·rw [if_pos c7] at H
    have c7b0 : decide (x5_1 ≤ a0_0) = true := decide_eq_true c7
    clear c7
    replace H := Option.bind_eq_some_iff.mp H
    obtain ⟨t465, A80, H⟩ := H
    replace H : (if t465 = true then (if x5_1 > (wrap64 (a1_0 + 5000)) then (some false) else (cenotaphref02_Within.l0 k1 (wrap64 (x5_1 + 1)) a0_0 l0_1 a1_0 l1_1)) else (some false)) = some r := H
    have A8 := Aside0.mk A80
    clear A80
    by_cases c9 : t465 = true
    ·subst c9
     have H1 : (if x5_1 > (wrap64 (a1_0 + 5000)) then (some false) else (cenotaphref02_Within.l0 k1 (wrap64 (x5_1 + 1)) a0_0 l0_1 a1_0 l1_1)) = some r := by rw [if_pos rfl] at H; exact H
     clear H
     have H := H1
     clear H1
     by_cases c10 : x5_1 > (wrap64 (a1_0 + 5000))
     ·rw [if_pos c10] at H
      have c10b0 : decide ((wrap64 (a1_0 + 5000)) < x5_1) = true := decide_eq_true c10
      clear c10
      obtain rfl := Option.some.inj H
      have hnb11 := NB463_464.out
      have hnc11 := NB464_463.out
      have hcz12_0 : wr.cell? ⟨gb463, 0, none⟩ = some (.int .i64 a0_0) := (blk_cell BK463.out 0).trans rfl
      have hcz12_1 : wr.cell? ⟨gb463, 1, none⟩ = some (.slice A0_1 l0_1.length c0_1) := (blk_cell BK463.out 1).trans rfl
      have hfz12_0 := blk_frozen BK463.out 0
      have hfz12_1 := blk_frozen BK463.out 1
      have hcz13_0 : wr.cell? ⟨gb464, 0, none⟩ = some (.int .i64 a1_0) := (blk_cell BK464.out 0).trans rfl
      have hcz13_1 : wr.cell? ⟨gb464, 1, none⟩ = some (.slice A1_1 l1_1.length c1_1) := (blk_cell BK464.out 1).trans rfl
      have hfz13_0 := blk_frozen BK464.out 0
      have hfz13_1 := blk_frozen BK464.out 1
      go_wp2_with (first | ((with_reducible refine gate_callee (f := 22) rfl ?_); refine goesL_ (some 18) rfl rfl Try.func22 (by kernel_rfl) rfl #[.agg #[.int .i64 a1_0, .slice A1_1 l1_1.length c1_1], .int .i64 x5_1] rfl zq30_2 ?_; (with_reducible refine (cenotaphref02_Has.calls k1 a1_0 _ _ l1_1 x5_1 true _ ?side1 ?side2 A8.out).mono ?_); (case side1 => repeat (first | exact (Kd.C_below HR1_1.out HB.out) | (with_reducible refine Kd.C_alloc ?_ _) | (with_reducible refine Kd.C_drewN ?_ _) | (with_reducible refine Kd.C_drew ?_))); (case side2 => exact HC1_1.out); rintro e w14 ⟨rfl, hb⟩; refine ⟨_, rfl, ?_⟩; have n0_ := Aside0.mk (blk_below (g := gb463) (o := .cells #[.int .i64 a0_0, .slice A0_1 l0_1.length c0_1] 30 (0, 0)) zq30_4 hb); have n1_ := Aside0.mk (blk_below (g := gb464) (o := .cells #[.int .i64 a1_0, .slice A1_1 l1_1.length c1_1] 30 (0, 0)) zq30_5 hb); have n2_ := Aside0.mk (below_step zq30_0 hb); clear BK463; clear BK464; clear HB; have BK463 := n0_; have BK464 := n1_; have HB := n2_; clear n0_ n1_ n2_; (try clear hb); (try clear hb2); (try clear hk); (try clear hi); have hcz15_0 : w14.cell? ⟨gb464, 0, none⟩ = some (.int .i64 a1_0) := (blk_cell BK464.out 0).trans rfl; have hcz15_1 : w14.cell? ⟨gb464, 1, none⟩ = some (.slice A1_1 l1_1.length c1_1) := (blk_cell BK464.out 1).trans rfl; have hfz15_0 := blk_frozen BK464.out 0; have hfz15_1 := blk_frozen BK464.out 1))
      go_ret
      exact ⟨by first | rfl | (simp [errW_none, errW_some] <;> rfl) | (simp [*, errW_none, errW_some] <;> rfl), by repeat (first | (with_reducible first | exact HB.out | apply below_alloc | apply pw_below_drewN | apply below_drew1 | refine below_set ?_ GE463.out | refine below_set ?_ GE464.out) | exact HB.out)⟩
     ·rw [if_neg c10] at H
      have c10b0 : decide ((wrap64 (a1_0 + 5000)) < x5_1) = false := decide_eq_false c10
      clear c10
      have H' := Aside0.mk H
      clear H
      have hnb16 := NB463_464.out
      have hnc16 := NB464_463.out
      have hcz17_0 : wr.cell? ⟨gb463, 0, none⟩ = some (.int .i64 a0_0) := (blk_cell BK463.out 0).trans rfl
      have hcz17_1 : wr.cell? ⟨gb463, 1, none⟩ = some (.slice A0_1 l0_1.length c0_1) := (blk_cell BK463.out 1).trans rfl
      have hfz17_0 := blk_frozen BK463.out 0
      have hfz17_1 := blk_frozen BK463.out 1
      have hcz18_0 : wr.cell? ⟨gb464, 0, none⟩ = some (.int .i64 a1_0) := (blk_cell BK464.out 0).trans rfl
      have hcz18_1 : wr.cell? ⟨gb464, 1, none⟩ = some (.slice A1_1 l1_1.length c1_1) := (blk_cell BK464.out 1).trans rfl
      have hfz18_0 := blk_frozen BK464.out 0
      have hfz18_1 := blk_frozen BK464.out 1
      go_wp2_with (first | ((with_reducible refine gate_callee (f := 22) rfl ?_); refine goesL_ (some 18) rfl rfl Try.func22 (by kernel_rfl) rfl #[.agg #[.int .i64 a1_0, .slice A1_1 l1_1.length c1_1], .int .i64 x5_1] rfl zq30_2 ?_; (with_reducible refine (cenotaphref02_Has.calls k1 a1_0 _ _ l1_1 x5_1 true _ ?side1 ?side2 A8.out).mono ?_); (case side1 => repeat (first | exact (Kd.C_below HR1_1.out HB.out) | (with_reducible refine Kd.C_alloc ?_ _) | (with_reducible refine Kd.C_drewN ?_ _) | (with_reducible refine Kd.C_drew ?_))); (case side2 => exact HC1_1.out); rintro e w19 ⟨rfl, hb⟩; refine ⟨_, rfl, ?_⟩; have n0_ := Aside0.mk (blk_below (g := gb463) (o := .cells #[.int .i64 a0_0, .slice A0_1 l0_1.length c0_1] 30 (0, 0)) zq30_4 hb); have n1_ := Aside0.mk (blk_below (g := gb464) (o := .cells #[.int .i64 a1_0, .slice A1_1 l1_1.length c1_1] 30 (0, 0)) zq30_5 hb); have n2_ := Aside0.mk (below_step zq30_0 hb); clear BK463; clear BK464; clear HB; have BK463 := n0_; have BK464 := n1_; have HB := n2_; clear n0_ n1_ n2_; (try clear hb); (try clear hb2); (try clear hk); (try clear hi); have hcz20_0 : w19.cell? ⟨gb464, 0, none⟩ = some (.int .i64 a1_0) := (blk_cell BK464.out 0).trans rfl; have hcz20_1 : w19.cell? ⟨gb464, 1, none⟩ = some (.slice A1_1 l1_1.length c1_1) := (blk_cell BK464.out 1).trans rfl; have hfz20_0 := blk_frozen BK464.out 0; have hfz20_1 := blk_frozen BK464.out 1))
      go_roundg k1
      case measure => have := HK1.out; omega
      case rel => exact ⟨(wrap64 (x5_1 + 1)), zq30_7, H', ⟨by have := HK1.out; omega⟩, ⟨by (with_reducible repeat (first | refine blk_drewN ?_ _ | refine blk_drew ?_ | refine blk_alloc ?_ _)); exact BK463.out⟩, ⟨by (with_reducible repeat (first | refine blk_drewN ?_ _ | refine blk_drew ?_ | refine blk_alloc ?_ _)); exact BK464.out⟩, ⟨by repeat (first | (with_reducible first | exact HB.out | apply below_alloc | apply pw_below_drewN | apply below_drew1 | refine below_set ?_ GE463.out | refine below_set ?_ GE464.out) | exact HB.out)⟩⟩
    ·replace c9 := Bool.eq_false_iff.mpr c9
     subst c9
     have H1 : (some false) = some r := by rw [if_neg (show ¬ (false = true) by decide)] at H; exact H
     clear H
     have H := H1
     clear H1
     obtain rfl := Option.some.inj H
     have hnb21 := NB463_464.out
     have hnc21 := NB464_463.out
     have hcz22_0 : wr.cell? ⟨gb463, 0, none⟩ = some (.int .i64 a0_0) := (blk_cell BK463.out 0).trans rfl
     have hcz22_1 : wr.cell? ⟨gb463, 1, none⟩ = some (.slice A0_1 l0_1.length c0_1) := (blk_cell BK463.out 1).trans rfl
     have hfz22_0 := blk_frozen BK463.out 0
     have hfz22_1 := blk_frozen BK463.out 1
     have hcz23_0 : wr.cell? ⟨gb464, 0, none⟩ = some (.int .i64 a1_0) := (blk_cell BK464.out 0).trans rfl
     have hcz23_1 : wr.cell? ⟨gb464, 1, none⟩ = some (.slice A1_1 l1_1.length c1_1) := (blk_cell BK464.out 1).trans rfl
     have hfz23_0 := blk_frozen BK464.out 0
     have hfz23_1 := blk_frozen BK464.out 1
     go_wp2_with (first | ((with_reducible refine gate_callee (f := 22) rfl ?_); refine goesL_ (some 18) rfl rfl Try.func22 (by kernel_rfl) rfl #[.agg #[.int .i64 a1_0, .slice A1_1 l1_1.length c1_1], .int .i64 x5_1] rfl zq30_2 ?_; (with_reducible refine (cenotaphref02_Has.calls k1 a1_0 _ _ l1_1 x5_1 false _ ?side1 ?side2 A8.out).mono ?_); (case side1 => repeat (first | exact (Kd.C_below HR1_1.out HB.out) | (with_reducible refine Kd.C_alloc ?_ _) | (with_reducible refine Kd.C_drewN ?_ _) | (with_reducible refine Kd.C_drew ?_))); (case side2 => exact HC1_1.out); rintro e w24 ⟨rfl, hb⟩; refine ⟨_, rfl, ?_⟩; have n0_ := Aside0.mk (blk_below (g := gb463) (o := .cells #[.int .i64 a0_0, .slice A0_1 l0_1.length c0_1] 30 (0, 0)) zq30_4 hb); have n1_ := Aside0.mk (blk_below (g := gb464) (o := .cells #[.int .i64 a1_0, .slice A1_1 l1_1.length c1_1] 30 (0, 0)) zq30_5 hb); have n2_ := Aside0.mk (below_step zq30_0 hb); clear BK463; clear BK464; clear HB; have BK463 := n0_; have BK464 := n1_; have HB := n2_; clear n0_ n1_ n2_; (try clear hb); (try clear hb2); (try clear hk); (try clear hi)))
     go_ret
     exact ⟨by first | rfl | (simp [errW_none, errW_some] <;> rfl) | (simp [*, errW_none, errW_some] <;> rfl), by repeat (first | (with_reducible first | exact HB.out | apply below_alloc | apply pw_below_drewN | apply below_drew1 | refine below_set ?_ GE463.out | refine below_set ?_ GE464.out) | exact HB.out)⟩
   ·rw [if_neg c7] at H
    have c7b0 : decide (x5_1 ≤ a0_0) = false := decide_eq_false c7
    clear c7
    have H' := Aside0.mk H
    clear H
    have hnb25 := NB463_464.out
    have hnc25 := NB464_463.out
    have hcz26_0 : wr.cell? ⟨gb463, 0, none⟩ = some (.int .i64 a0_0) := (blk_cell BK463.out 0).trans rfl
    have hcz26_1 : wr.cell? ⟨gb463, 1, none⟩ = some (.slice A0_1 l0_1.length c0_1) := (blk_cell BK463.out 1).trans rfl
    have hfz26_0 := blk_frozen BK463.out 0
    have hfz26_1 := blk_frozen BK463.out 1
    go_wp2
    go_loopg [6] k1 (fun kq v6 w' => ∃ (x6_2 : Int), v6 = .int .i64 x6_2 ∧ Aside0 (cenotaphref02_Within.l1 kq x6_2 a0_0 l0_1 a1_0 l1_1 = some r) ∧ Aside0 (kq ≤ k1) ∧ Aside0 (w'.heap[gb463]? = some (.cells #[.int .i64 a0_0, (.slice A0_1 l0_1.length c0_1)] 30 (0, 0))) ∧ Aside0 (w'.heap[gb464]? = some (.cells #[.int .i64 a1_0, (.slice A1_1 l1_1.length c1_1)] 30 (0, 0))) ∧ Aside0 (Below w.heap.size w w'))
    case atStart => exact ⟨(0), zq30_7, H', ⟨Nat.le_refl _⟩, ⟨by (with_reducible repeat (first | refine blk_drewN ?_ _ | refine blk_drew ?_ | refine blk_alloc ?_ _)); exact BK463.out⟩, ⟨by (with_reducible repeat (first | refine blk_drewN ?_ _ | refine blk_drew ?_ | refine blk_alloc ?_ _)); exact BK464.out⟩, ⟨by repeat (first | (with_reducible first | exact HB.out | apply below_alloc | apply pw_below_drewN | apply below_drew1 | refine below_set ?_ GE463.out | refine below_set ?_ GE464.out) | exact HB.out)⟩⟩
    case round =>
     clear H'
     try clear c1
     try clear c2
     try clear p2
     try clear c3
     try clear c5
     try clear p6
     try clear c7
     try clear c7b0
     try clear c9
     try clear c10
     try clear c10b0
     try clear c11
     try clear c16
     try clear c21
     try clear c22
     try clear c25
     try clear hcz12_0
     try clear hcz12_1
     try clear hcz13_0
     try clear hcz13_1
     try clear hcz15_0
     try clear hcz15_1
     try clear hcz17_0
     try clear hcz17_1
     try clear hcz18_0
     try clear hcz18_1
     try clear hcz20_0
     try clear hcz20_1
     try clear hcz22_0
     try clear hcz22_1
     try clear hcz23_0
     try clear hcz23_1
     try clear hcz26_0
     try clear hcz26_1
     try clear hcz6_0
     try clear hcz6_1
     try clear hfz12_0
     try clear hfz12_1
     try clear hfz13_0
     try clear hfz13_1
     try clear hfz15_0
     try clear hfz15_1
     try clear hfz17_0
     try clear hfz17_1
     try clear hfz18_0
     try clear hfz18_1
     try clear hfz20_0
     try clear hfz20_1
     try clear hfz22_0
     try clear hfz22_1
     try clear hfz23_0
     try clear hfz23_1
     try clear hfz26_0
     try clear hfz26_1
     try clear hfz6_0
     try clear hfz6_1
     try clear p2
     try clear p6
     obtain ⟨x6_2, rfl, HA, HK2, BK463, BK464, HB⟩ := hrel
     cases gk with
     | zero => exact absurd HA.out (by simp [cenotaphref02_Within.l1])
     | succ k2 =>
      have H := HA.out
      clear HA
      simp only [cenotaphref02_Within.l1] at H
      by_cases c27 : x6_2 < (l0_1.length : Int)
      ·rw [if_pos c27] at H
       have c27b0 : decide (x6_2 < (l0_1.length : Int)) = true := decide_eq_true c27
       clear c27
       by_cases c28 : 0 ≤ x6_2
       ·rw [if_pos c28] at H
        have c28b0 : decide (0 ≤ x6_2) = true := decide_eq_true c28
        clear c28
        replace H := Option.bind_eq_some_iff.mp H
        obtain ⟨t467, A290, H⟩ := H
        replace H : (if t467 = true then (cenotaphref02_Within.l1 k2 (wrap64 (x6_2 + 1)) a0_0 l0_1 a1_0 l1_1) else (some false)) = some r := H
        have A29 := Aside0.mk A290
        clear A290
        by_cases c30 : t467 = true
        ·subst c30
         have H1 : (cenotaphref02_Within.l1 k2 (wrap64 (x6_2 + 1)) a0_0 l0_1 a1_0 l1_1) = some r := by rw [if_pos rfl] at H; exact H
         clear H
         have H := H1
         clear H1
         have H' := Aside0.mk H
         clear H
         have hnb31 := NB463_464.out
         have hnc31 := NB464_463.out
         have hcz32_0 : wr.cell? ⟨gb463, 0, none⟩ = some (.int .i64 a0_0) := (blk_cell BK463.out 0).trans rfl
         have hcz32_1 : wr.cell? ⟨gb463, 1, none⟩ = some (.slice A0_1 l0_1.length c0_1) := (blk_cell BK463.out 1).trans rfl
         have hfz32_0 := blk_frozen BK463.out 0
         have hfz32_1 := blk_frozen BK463.out 1
         try go_wp2
         replace BK463 := Aside0.mk (blk_drew BK463.out)
         replace BK464 := Aside0.mk (blk_drew BK464.out)
         replace HB := Aside0.mk (below_drew1 HB.out)
         have p466 : 0 ≤ (x6_2 : Int) := of_decide_eq_true zq30_6
         have q466 : x6_2 < (l0_1.length : Int) := of_decide_eq_true zq30_6
         obtain ⟨ad466, e466, hx466_0⟩ := Kd.at_int HR0_1.out x6_2 p466 q466
         have hw466_0 := hx466_0
         cases e466
         replace hx466_0 := (HB.out.cell (World.block_lt_of_cell? w _ hx466_0)).trans hx466_0
         replace p466 := eq_true p466
         replace q466 := eq_true q466
         refine start_ (n := 8) (S := fun w' => w'.cell? ⟨gb464, 0, none⟩ = some (.int .i64 a1_0) ∧ w'.cell? ⟨gb464, 1, none⟩ = some (.slice A1_1 l1_1.length c1_1) ∧ w'.cell? ⟨gb463, 0, none⟩ = some (.int .i64 a0_0) ∧ w'.cell? ⟨gb463, 1, none⟩ = some (.slice (some ad466) l0_1.length c0_1) ∧ w'.cell? (ad466.add (x6_2).toNat) = some (.int .i64 (rd l0_1 x6_2))) (ds := []) #[false, false, false, false, false, false, false, false] (by kernel_rfl) rfl rfl ⟨(blk_cell BK464.out 0).trans rfl, (blk_cell BK464.out 1).trans rfl, (blk_cell BK463.out 0).trans rfl, (blk_cell BK463.out 1).trans rfl, ((HB.out.cell (World.block_lt_of_cell? w _ hw466_0)).trans hw466_0)⟩ (fun hHeld => ?_); refine with_tabW cenotaphref02_Within.tab11 cenotaphref02_Within.bits11 (fun HT_ HW_ => ?_)
         generalize wr.drew = w33 at BK463 BK464 HB hx466_0 hHeld ⊢
         refine pure_ (i := 1) (N := some 33) (v := ?_) (a' := ?_) #[false, true, false, false, false, false, false, false] rfl rfl (any_of HT_.out (by kernel_rfl)) (fun _ _ _ h => h) (Or.inl ⟨by rfl, ?_⟩) ?_ ?_
         rotate_left
         ·intro w'
          go_simp
          with_reducible rfl
         rotate_left
         ·simp only [Act.put, List.setIfInBounds_toArray, List.set_cons_zero, List.set_cons_succ, i64_w, i32_w]
          rfl
         refine pure_ (i := 3) (N := some 35) (v := ?_) (a' := ?_) #[false, true, false, true, false, false, false, false] rfl rfl (any_of HT_.out (by kernel_rfl)) (fun _ _ _ h => h) (Or.inl ⟨by rfl, ?_⟩) ?_ ?_
         rotate_left
         ·intro w'
          go_simp
          with_reducible rfl
         rotate_left
         ·simp only [Act.put, List.setIfInBounds_toArray, List.set_cons_zero, List.set_cons_succ, i64_w, i32_w]
          rfl
         refine take_ (i := 0) (N := some 32) (v := ?_) (a' := ?_) #[true, true, false, true, false, false, false, false] rfl rfl (take_ofW HT_.out HW_.out (by kernel_rfl)) (fun _ _ _ h => h) (Or.inl ⟨by rfl, ?_⟩) hHeld ?_ ?_
         rotate_left
         ·rintro w' ⟨s0, s1, s2, s3, s4⟩
          go_simp
          with_reducible rfl
         rotate_left
         ·simp only [Act.put, List.setIfInBounds_toArray, List.set_cons_zero, List.set_cons_succ, i64_w, i32_w]
          rfl
         refine take_ (i := 2) (N := some 34) (v := ?_) (a' := ?_) #[true, true, true, true, false, false, false, false] rfl rfl (take_ofW HT_.out HW_.out (by kernel_rfl)) (fun _ _ _ h => h) (Or.inl ⟨by rfl, ?_⟩) hHeld ?_ ?_
         rotate_left
         ·rintro w' ⟨s0, s1, s2, s3, s4⟩
          go_simp
          with_reducible rfl
         rotate_left
         ·simp only [Act.put, List.setIfInBounds_toArray, List.set_cons_zero, List.set_cons_succ, i64_w, i32_w]
          rfl
         refine pure_ (i := 4) (N := some 36) (v := ?_) (a' := ?_) #[true, true, true, true, true, false, false, false] rfl rfl (any_of HT_.out (by kernel_rfl)) (fun _ _ _ h => h) (Or.inl ⟨by rfl, ?_⟩) ?_ ?_
         rotate_left
         ·intro w'
          go_simp
          with_reducible rfl
         rotate_left
         ·simp only [Act.put, List.setIfInBounds_toArray, List.set_cons_zero, List.set_cons_succ, i64_w, i32_w]
          rfl
         refine take_ (i := 5) (N := some 37) (v := ?_) (a' := ?_) #[true, true, true, true, true, true, false, false] rfl rfl (take_ofW HT_.out HW_.out (by kernel_rfl)) (fun _ _ _ h => h) (Or.inl ⟨by rfl, ?_⟩) hHeld ?_ ?_
         rotate_left
         ·rintro w' ⟨s0, s1, s2, s3, s4⟩
          go_simp
          with_reducible rfl
         rotate_left
         ·simp only [Act.put, List.setIfInBounds_toArray, List.set_cons_zero, List.set_cons_succ, i64_w, i32_w]
          rfl
         refine one_ (i := 6) (N := some 38) #[true, true, true, true, true, true, true, false] rfl rfl (one_of HT_.out (by kernel_rfl)) (by decide) (fun K hK => ?_)
         refine goes_ Try.func22 (by kernel_rfl) rfl #[.agg #[.int .i64 a1_0, .slice A1_1 l1_1.length c1_1], .int .i64 (rd l0_1 x6_2)] (by rfl) rfl rfl zq30_2 ?_
         with_reducible refine (cenotaphref02_Has.calls k2 a1_0 _ _ l1_1 (rd l0_1 x6_2) true _ ?side1 ?side2 A29.out).mono ?_
         (case side1 => repeat (first | exact (Kd.C_below HR1_1.out HB.out) | (with_reducible refine Kd.C_alloc ?_ _) | (with_reducible refine Kd.C_drewN ?_ _) | (with_reducible refine Kd.C_drew ?_)))
         (case side2 => exact HC1_1.out)
         rintro e w34 ⟨rfl, hb⟩
         refine ⟨_, rfl, ?_⟩
         replace BK463 := Aside0.mk (blk_below (g := gb463) (o := .cells #[.int .i64 a0_0, .slice (some ad466) l0_1.length c0_1] 30 (0, 0)) zq30_4 hb)
         replace BK464 := Aside0.mk (blk_below (g := gb464) (o := .cells #[.int .i64 a1_0, .slice A1_1 l1_1.length c1_1] 30 (0, 0)) zq30_5 hb)
         replace HB := Aside0.mk (below_step zq30_0 hb)
         (try clear hb)
         (try clear hb2)
         (try clear hk)
         (try clear hi)
         refine hK.out _ _ ⟨(blk_cell BK464.out 0).trans rfl, (blk_cell BK464.out 1).trans rfl, (blk_cell BK463.out 0).trans rfl, (blk_cell BK463.out 1).trans rfl, ((HB.out.cell (World.block_lt_of_cell? w _ hw466_0)).trans hw466_0)⟩ (fun hHeld => ?_)
         clear hK K
         refine norm_ (a' := ?_) ?_ ?_
         rotate_left
         ·show Act.put _ (some 38) _ = _
          simp only [Act.put, List.setIfInBounds_toArray, List.set_cons_zero, List.set_cons_succ, i64_w, i32_w]
          rfl
         refine pure_ (i := 7) (N := some 39) (v := ?_) (a' := ?_) #[true, true, true, true, true, true, true, true] rfl rfl (any_of HT_.out (by kernel_rfl)) (fun _ _ _ h => h) (Or.inl ⟨by rfl, ?_⟩) ?_ ?_
         rotate_left
         ·intro w'
          go_simp
          with_reducible rfl
         rotate_left
         ·simp only [Act.put, List.setIfInBounds_toArray, List.set_cons_zero, List.set_cons_succ, i64_w, i32_w]
          rfl
         refine done_ (done_of HT_.out (by kernel_rfl)) ?_
         try go_wp2
         go_roundg k2
         case measure => have := HK1.out; have := HK2.out; omega
         case rel => exact ⟨(wrap64 (x6_2 + 1)), zq30_7, H', ⟨by have := HK1.out; have := HK2.out; omega⟩, ⟨by (with_reducible repeat (first | refine blk_drewN ?_ _ | refine blk_drew ?_ | refine blk_alloc ?_ _)); exact BK463.out⟩, ⟨by (with_reducible repeat (first | refine blk_drewN ?_ _ | refine blk_drew ?_ | refine blk_alloc ?_ _)); exact BK464.out⟩, ⟨by repeat (first | (with_reducible first | exact HB.out | apply below_alloc | apply pw_below_drewN | apply below_drew1 | refine below_set ?_ GE463.out | refine below_set ?_ GE464.out) | exact HB.out)⟩⟩
        ·replace c30 := Bool.eq_false_iff.mpr c30
         subst c30
         have H1 : (some false) = some r := by rw [if_neg (show ¬ (false = true) by decide)] at H; exact H
         clear H
         have H := H1
         clear H1
         obtain rfl := Option.some.inj H
         have hnb35 := NB463_464.out
         have hnc35 := NB464_463.out
         have hcz36_0 : wr.cell? ⟨gb463, 0, none⟩ = some (.int .i64 a0_0) := (blk_cell BK463.out 0).trans rfl
         have hcz36_1 : wr.cell? ⟨gb463, 1, none⟩ = some (.slice A0_1 l0_1.length c0_1) := (blk_cell BK463.out 1).trans rfl
         have hfz36_0 := blk_frozen BK463.out 0
         have hfz36_1 := blk_frozen BK463.out 1
         try go_wp2
         replace BK463 := Aside0.mk (blk_drew BK463.out)
         replace BK464 := Aside0.mk (blk_drew BK464.out)
         replace HB := Aside0.mk (below_drew1 HB.out)
         have p466 : 0 ≤ (x6_2 : Int) := of_decide_eq_true zq30_6
         have q466 : x6_2 < (l0_1.length : Int) := of_decide_eq_true zq30_6
         obtain ⟨ad466, e466, hx466_0⟩ := Kd.at_int HR0_1.out x6_2 p466 q466
         have hw466_0 := hx466_0
         cases e466
         replace hx466_0 := (HB.out.cell (World.block_lt_of_cell? w _ hx466_0)).trans hx466_0
         replace p466 := eq_true p466
         replace q466 := eq_true q466
         refine start_ (n := 8) (S := fun w' => w'.cell? ⟨gb464, 0, none⟩ = some (.int .i64 a1_0) ∧ w'.cell? ⟨gb464, 1, none⟩ = some (.slice A1_1 l1_1.length c1_1) ∧ w'.cell? ⟨gb463, 0, none⟩ = some (.int .i64 a0_0) ∧ w'.cell? ⟨gb463, 1, none⟩ = some (.slice (some ad466) l0_1.length c0_1) ∧ w'.cell? (ad466.add (x6_2).toNat) = some (.int .i64 (rd l0_1 x6_2))) (ds := []) #[false, false, false, false, false, false, false, false] (by kernel_rfl) rfl rfl ⟨(blk_cell BK464.out 0).trans rfl, (blk_cell BK464.out 1).trans rfl, (blk_cell BK463.out 0).trans rfl, (blk_cell BK463.out 1).trans rfl, ((HB.out.cell (World.block_lt_of_cell? w _ hw466_0)).trans hw466_0)⟩ (fun hHeld => ?_); refine with_tabW cenotaphref02_Within.tab11 cenotaphref02_Within.bits11 (fun HT_ HW_ => ?_)
         generalize wr.drew = w37 at BK463 BK464 HB hx466_0 hHeld ⊢
         refine pure_ (i := 1) (N := some 33) (v := ?_) (a' := ?_) #[false, true, false, false, false, false, false, false] rfl rfl (any_of HT_.out (by kernel_rfl)) (fun _ _ _ h => h) (Or.inl ⟨by rfl, ?_⟩) ?_ ?_
         rotate_left
         ·intro w'
          go_simp
          with_reducible rfl
         rotate_left
         ·simp only [Act.put, List.setIfInBounds_toArray, List.set_cons_zero, List.set_cons_succ, i64_w, i32_w]
          rfl
         refine pure_ (i := 3) (N := some 35) (v := ?_) (a' := ?_) #[false, true, false, true, false, false, false, false] rfl rfl (any_of HT_.out (by kernel_rfl)) (fun _ _ _ h => h) (Or.inl ⟨by rfl, ?_⟩) ?_ ?_
         rotate_left
         ·intro w'
          go_simp
          with_reducible rfl
         rotate_left
         ·simp only [Act.put, List.setIfInBounds_toArray, List.set_cons_zero, List.set_cons_succ, i64_w, i32_w]
          rfl
         refine take_ (i := 0) (N := some 32) (v := ?_) (a' := ?_) #[true, true, false, true, false, false, false, false] rfl rfl (take_ofW HT_.out HW_.out (by kernel_rfl)) (fun _ _ _ h => h) (Or.inl ⟨by rfl, ?_⟩) hHeld ?_ ?_
         rotate_left
         ·rintro w' ⟨s0, s1, s2, s3, s4⟩
          go_simp
          with_reducible rfl
         rotate_left
         ·simp only [Act.put, List.setIfInBounds_toArray, List.set_cons_zero, List.set_cons_succ, i64_w, i32_w]
          rfl
         refine take_ (i := 2) (N := some 34) (v := ?_) (a' := ?_) #[true, true, true, true, false, false, false, false] rfl rfl (take_ofW HT_.out HW_.out (by kernel_rfl)) (fun _ _ _ h => h) (Or.inl ⟨by rfl, ?_⟩) hHeld ?_ ?_
         rotate_left
         ·rintro w' ⟨s0, s1, s2, s3, s4⟩
          go_simp
          with_reducible rfl
         rotate_left
         ·simp only [Act.put, List.setIfInBounds_toArray, List.set_cons_zero, List.set_cons_succ, i64_w, i32_w]
          rfl
         refine pure_ (i := 4) (N := some 36) (v := ?_) (a' := ?_) #[true, true, true, true, true, false, false, false] rfl rfl (any_of HT_.out (by kernel_rfl)) (fun _ _ _ h => h) (Or.inl ⟨by rfl, ?_⟩) ?_ ?_
         rotate_left
         ·intro w'
          go_simp
          with_reducible rfl
         rotate_left
         ·simp only [Act.put, List.setIfInBounds_toArray, List.set_cons_zero, List.set_cons_succ, i64_w, i32_w]
          rfl
         refine take_ (i := 5) (N := some 37) (v := ?_) (a' := ?_) #[true, true, true, true, true, true, false, false] rfl rfl (take_ofW HT_.out HW_.out (by kernel_rfl)) (fun _ _ _ h => h) (Or.inl ⟨by rfl, ?_⟩) hHeld ?_ ?_
         rotate_left
         ·rintro w' ⟨s0, s1, s2, s3, s4⟩
          go_simp
          with_reducible rfl
         rotate_left
         ·simp only [Act.put, List.setIfInBounds_toArray, List.set_cons_zero, List.set_cons_succ, i64_w, i32_w]
          rfl
         refine one_ (i := 6) (N := some 38) #[true, true, true, true, true, true, true, false] rfl rfl (one_of HT_.out (by kernel_rfl)) (by decide) (fun K hK => ?_)
         refine goes_ Try.func22 (by kernel_rfl) rfl #[.agg #[.int .i64 a1_0, .slice A1_1 l1_1.length c1_1], .int .i64 (rd l0_1 x6_2)] (by rfl) rfl rfl zq30_2 ?_
         with_reducible refine (cenotaphref02_Has.calls k2 a1_0 _ _ l1_1 (rd l0_1 x6_2) false _ ?side1 ?side2 A29.out).mono ?_
         (case side1 => repeat (first | exact (Kd.C_below HR1_1.out HB.out) | (with_reducible refine Kd.C_alloc ?_ _) | (with_reducible refine Kd.C_drewN ?_ _) | (with_reducible refine Kd.C_drew ?_)))
         (case side2 => exact HC1_1.out)
         rintro e w38 ⟨rfl, hb⟩
         refine ⟨_, rfl, ?_⟩
         replace BK463 := Aside0.mk (blk_below (g := gb463) (o := .cells #[.int .i64 a0_0, .slice (some ad466) l0_1.length c0_1] 30 (0, 0)) zq30_4 hb)
         replace BK464 := Aside0.mk (blk_below (g := gb464) (o := .cells #[.int .i64 a1_0, .slice A1_1 l1_1.length c1_1] 30 (0, 0)) zq30_5 hb)
         replace HB := Aside0.mk (below_step zq30_0 hb)
         (try clear hb)
         (try clear hb2)
         (try clear hk)
         (try clear hi)
         refine hK.out _ _ ⟨(blk_cell BK464.out 0).trans rfl, (blk_cell BK464.out 1).trans rfl, (blk_cell BK463.out 0).trans rfl, (blk_cell BK463.out 1).trans rfl, ((HB.out.cell (World.block_lt_of_cell? w _ hw466_0)).trans hw466_0)⟩ (fun hHeld => ?_)
         clear hK K
         refine norm_ (a' := ?_) ?_ ?_
         rotate_left
         ·show Act.put _ (some 38) _ = _
          simp only [Act.put, List.setIfInBounds_toArray, List.set_cons_zero, List.set_cons_succ, i64_w, i32_w]
          rfl
         refine pure_ (i := 7) (N := some 39) (v := ?_) (a' := ?_) #[true, true, true, true, true, true, true, true] rfl rfl (any_of HT_.out (by kernel_rfl)) (fun _ _ _ h => h) (Or.inl ⟨by rfl, ?_⟩) ?_ ?_
         rotate_left
         ·intro w'
          go_simp
          with_reducible rfl
         rotate_left
         ·simp only [Act.put, List.setIfInBounds_toArray, List.set_cons_zero, List.set_cons_succ, i64_w, i32_w]
          rfl
         refine done_ (done_of HT_.out (by kernel_rfl)) ?_
         try go_wp2
         go_ret
         exact ⟨by first | rfl | (simp [errW_none, errW_some] <;> rfl) | (simp [*, errW_none, errW_some] <;> rfl), by repeat (first | (with_reducible first | exact HB.out | apply below_alloc | apply pw_below_drewN | apply below_drew1 | refine below_set ?_ GE463.out | refine below_set ?_ GE464.out) | exact HB.out)⟩
       ·rw [if_neg c28] at H
        exact absurd H (by simp)
      ·rw [if_neg c27] at H
       have c27b0 : decide (x6_2 < (l0_1.length : Int)) = false := decide_eq_false c27
       clear c27
       obtain rfl := Option.some.inj H
       have hnb39 := NB463_464.out
       have hnc39 := NB464_463.out
       have hcz40_0 : wr.cell? ⟨gb463, 0, none⟩ = some (.int .i64 a0_0) := (blk_cell BK463.out 0).trans rfl
       have hcz40_1 : wr.cell? ⟨gb463, 1, none⟩ = some (.slice A0_1 l0_1.length c0_1) := (blk_cell BK463.out 1).trans rfl
       have hfz40_0 := blk_frozen BK463.out 0
       have hfz40_1 := blk_frozen BK463.out 1
       go_wp2
       go_ret
       exact ⟨by first | rfl | (simp [errW_none, errW_some] <;> rfl) | (simp [*, errW_none, errW_some] <;> rfl), by repeat (first | (with_reducible first | exact HB.out | apply below_alloc | apply pw_below_drewN | apply below_drew1 | refine below_set ?_ GE463.out | refine below_set ?_ GE464.out) | exact HB.out)⟩

end Go.Proofs.Ytejoofeigeoboaa.P
