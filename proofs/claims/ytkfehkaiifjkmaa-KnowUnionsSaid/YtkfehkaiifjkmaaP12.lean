-- Written by a program of this session (wip/pp.py over the kit's printer, with our own texts put in).
import Derived.Test.YtkfehkaiifjkmaaP0
import Derived.Test.YtkfehkaiifjkmaaP5
import Derived.Test.YtkfehkaiifjkmaaP8
namespace Go.Proofs.Ytkfehkaiifjkmaa.P
open Go.RowKit Go.Proofs.YtkfehkaiifjkmaaW.PrintWords Go.Proofs.YtkfehkaiifjkmaaW.PrintLast Go.Proofs.YtkfehkaiifjkmaaW.PrintMore
attribute [local go_sem] max2_int min2_int max_two min_two max_three min_three max_four min_four   -- for this text's walks alone
set_option linter.unusedVariables false
set_option linter.unusedSimpArgs false

/-! ### cenotaphref02_Union_t: function 56 -/
theorem zq56x_0 {p_ : Prop} (h_ : p_ := by (with_reducible repeat (first | refine blk_drewN ?_ _ | refine blk_drew ?_ | refine blk_alloc ?_ _)); refine blk_far ?_ NB421_422.out _; (with_reducible repeat (first | refine blk_drewN ?_ _ | refine blk_drew ?_ | refine blk_alloc ?_ _)); refine blk_far ?_ NB421_422.out _; (with_reducible repeat (first | refine blk_drewN ?_ _ | refine blk_drew ?_ | refine blk_alloc ?_ _)); refine blk_put (cs := #[.int .i64 a1_0, .slice A0_1 l0_1.length c0_1]) ?_ 1 _ rfl; (with_reducible repeat (first | refine blk_drewN ?_ _ | refine blk_drew ?_ | refine blk_alloc ?_ _)); refine blk_put (cs := #[.int .i64 a0_0, .slice A0_1 l0_1.length c0_1]) ?_ 0 _ rfl; (with_reducible repeat (first | refine blk_drewN ?_ _ | refine blk_drew ?_ | refine blk_alloc ?_ _)); exact BK421.out) : p_ := h_
theorem zq56x_1 {p_ : Prop} (h_ : p_ := by (with_reducible repeat (first | refine blk_drewN ?_ _ | refine blk_drew ?_ | refine blk_alloc ?_ _)); refine blk_put (cs := #[.int .i64 a0_0, .slice A1_1 l1_1.length c1_1]) ?_ 1 _ rfl; (with_reducible repeat (first | refine blk_drewN ?_ _ | refine blk_drew ?_ | refine blk_alloc ?_ _)); refine blk_put (cs := #[.int .i64 a1_0, .slice A1_1 l1_1.length c1_1]) ?_ 0 _ rfl; (with_reducible repeat (first | refine blk_drewN ?_ _ | refine blk_drew ?_ | refine blk_alloc ?_ _)); refine blk_far ?_ NB422_421.out _; (with_reducible repeat (first | refine blk_drewN ?_ _ | refine blk_drew ?_ | refine blk_alloc ?_ _)); refine blk_far ?_ NB422_421.out _; (with_reducible repeat (first | refine blk_drewN ?_ _ | refine blk_drew ?_ | refine blk_alloc ?_ _)); exact BK422.out) : p_ := h_
theorem zq56x_2 {p_ : Prop} (h_ : p_ := by (with_reducible repeat (first | refine blk_drewN ?_ _ | refine blk_drew ?_ | refine blk_alloc ?_ _)); refine blk_far ?_ NB423_422.out _; (with_reducible repeat (first | refine blk_drewN ?_ _ | refine blk_drew ?_ | refine blk_alloc ?_ _)); refine blk_far ?_ NB423_422.out _; (with_reducible repeat (first | refine blk_drewN ?_ _ | refine blk_drew ?_ | refine blk_alloc ?_ _)); refine blk_far ?_ NB423_421.out _; (with_reducible repeat (first | refine blk_drewN ?_ _ | refine blk_drew ?_ | refine blk_alloc ?_ _)); refine blk_far ?_ NB423_421.out _; (with_reducible repeat (first | refine blk_drewN ?_ _ | refine blk_drew ?_ | refine blk_alloc ?_ _)); exact BK423.out) : p_ := h_
theorem zq56x_3 {p_ : Prop} (h_ : p_ := by repeat (first | (with_reducible first | exact HB.out | apply below_alloc | apply pw_below_drewN | apply below_drew1 | refine below_set ?_ GE421.out | refine below_set ?_ GE422.out | refine below_set ?_ GE423.out | refine below_set ?_ GE424.out) | exact HB.out)) : p_ := h_
theorem zq56x_4 {p_ : Prop} (h_ : p_ := by repeat (first | (with_reducible first | exact HB.out | apply below_alloc | apply pw_below_drewN | apply below_drew1 | refine below_set ?_ GE421.out | refine below_set ?_ GE422.out | refine below_set ?_ GE423.out) | exact HB.out)) : p_ := h_
theorem zq56x_5 {p_ : Prop} (h_ : p_ := by repeat (first | (with_reducible first | exact HB.out | apply below_alloc | apply pw_below_drewN | apply below_drew1 | refine below_set ?_ GE421.out | refine below_set ?_ GE422.out) | exact HB.out)) : p_ := h_
theorem zq56x_6 {p_ : Prop} (h_ : p_ := by repeat (first | (with_reducible first | exact HB.out | apply below_alloc | apply pw_below_drewN | apply below_drew1 | refine below_set ?_ GE421.out) | exact HB.out)) : p_ := h_
theorem zq56x_7 {p_ : Prop} (h_ : p_ := by repeat (first | (with_reducible first | exact HB.out | apply below_alloc | apply pw_below_drewN | apply below_drew1) | exact HB.out)) : p_ := h_
theorem zq56x_8 {p_ : Prop} (h_ : p_ := by (with_reducible repeat (first | refine blk_drewN ?_ _ | refine blk_drew ?_ | refine blk_alloc ?_ _)); exact BK421.out) : p_ := h_
theorem zq56x_9 {p_ : Prop} (h_ : p_ := by (with_reducible repeat (first | refine blk_drewN ?_ _ | refine blk_drew ?_ | refine blk_alloc ?_ _)); exact BK422.out) : p_ := h_
theorem zq56x_10 {p_ : Prop} (h_ : p_ := by (with_reducible repeat (first | apply Kd.R_alloc | apply Kd.R_drewN | apply Kd.R_drew)); exact HO_425001.out) : p_ := h_
theorem zq56x_11 {p_ : Prop} (h_ : p_ := by first | (with_reducible assumption) | assumption) : p_ := h_
theorem zq56x_12 {p_ : Prop} (h_ : p_ := by first | rfl | (simp; done) | (simp [*]; done)) : p_ := h_
mutual
def cenotaphref02_Union_t.l0 : Nat → Int → Int → List Int → Int → List Int → Int → List Int → Option (Int × List Int)
 | 0, _, _, _, _, _, _, _ => none
 | k + 1, x6, x422000, x422001, x423000, x423001, x425000, x425001 => if x6 < (x422001.length : Int) then (if 0 ≤ x6 then ((cenotaphref02_Add.f k x425000 x425001 (rd x422001 x6)).bind fun bt426 => (cenotaphref02_Union_t.l0 k (wrap64 (x6 + 1)) x422000 x422001 x423000 x423001 bt426.1 bt426.2)) else (none)) else (cenotaphref02_Union_t.l1 k 0 x423000 x423001 x425000 x425001)
def cenotaphref02_Union_t.l1 : Nat → Int → Int → List Int → Int → List Int → Option (Int × List Int)
 | 0, _, _, _, _, _ => none
 | k + 1, x7, x423000, x423001, x425000, x425001 => if x7 < (x423001.length : Int) then (if 0 ≤ x7 then ((cenotaphref02_Add.f k x425000 x425001 (rd x423001 x7)).bind fun bt431 => (cenotaphref02_Union_t.l1 k (wrap64 (x7 + 1)) x423000 x423001 bt431.1 bt431.2)) else (none)) else (some (x425000, x425001))
end
def cenotaphref02_Union_t.f (k : Nat) (a0_0 : Int) (l0_1 : List Int) (a1_0 : Int) (l1_1 : List Int) : Option (Int × List Int) := if a1_0 > a0_0 then (cenotaphref02_Union_t.l0 k 0 a1_0 l1_1 a0_0 l0_1 a1_0 ([] : List Int)) else (none)
theorem cenotaphref02_Union_t.mono_l : ∀ k, (∀ y0 y1 y2 y3 y4 y5 y6, LeO (cenotaphref02_Union_t.l0 k y0 y1 y2 y3 y4 y5 y6) (cenotaphref02_Union_t.l0 (k + 1) y0 y1 y2 y3 y4 y5 y6)) ∧ (∀ y0 y1 y2 y3 y4, LeO (cenotaphref02_Union_t.l1 k y0 y1 y2 y3 y4) (cenotaphref02_Union_t.l1 (k + 1) y0 y1 y2 y3 y4))
 | 0 => ⟨fun _ _ _ _ _ _ _ r h => by simp [cenotaphref02_Union_t.l0] at h, fun _ _ _ _ _ r h => by simp [cenotaphref02_Union_t.l1] at h⟩
 | k + 1 => by
  obtain ⟨ih0, ih1⟩ := cenotaphref02_Union_t.mono_l k
  refine ⟨?_, ?_⟩
  ·intro y0 y1 y2 y3 y4 y5 y6
   unfold cenotaphref02_Union_t.l0
   repeat' first
   | (with_reducible exact ih0 _ _ _ _ _ _ _)
   | (with_reducible exact ih1 _ _ _ _ _)
   | (with_reducible exact cenotaphref02_Add.mono _ _ _ _)
   | (with_reducible exact LeO.refl _)
   | (with_reducible exact LeO.none _)
   | (with_reducible refine LeO.ite ?_ ?_)
   | (with_reducible refine LeO.bind ?_ (fun _ => ?_))
   | exact ih0 _ _ _ _ _ _ _
   | exact ih1 _ _ _ _ _
   | exact cenotaphref02_Add.mono _ _ _ _
   | exact LeO.none _
   | refine LeO.ite ?_ ?_
   | refine LeO.bind ?_ (fun _ => ?_)
  ·intro y0 y1 y2 y3 y4
   unfold cenotaphref02_Union_t.l1
   repeat' first
   | (with_reducible exact ih0 _ _ _ _ _ _ _)
   | (with_reducible exact ih1 _ _ _ _ _)
   | (with_reducible exact cenotaphref02_Add.mono _ _ _ _)
   | (with_reducible exact LeO.refl _)
   | (with_reducible exact LeO.none _)
   | (with_reducible refine LeO.ite ?_ ?_)
   | (with_reducible refine LeO.bind ?_ (fun _ => ?_))
   | exact ih0 _ _ _ _ _ _ _
   | exact ih1 _ _ _ _ _
   | exact cenotaphref02_Add.mono _ _ _ _
   | exact LeO.none _
   | refine LeO.ite ?_ ?_
   | refine LeO.bind ?_ (fun _ => ?_)
theorem cenotaphref02_Union_t.mono : ∀ a0 a1 a2 a3 k, LeO (cenotaphref02_Union_t.f k a0 a1 a2 a3) (cenotaphref02_Union_t.f (k + 1) a0 a1 a2 a3) := by
 intro a0 a1 a2 a3 k
 obtain ⟨ih0, ih1⟩ := cenotaphref02_Union_t.mono_l k
 unfold cenotaphref02_Union_t.f
 repeat' first
   | (with_reducible exact ih0 _ _ _ _ _ _ _)
   | (with_reducible exact ih1 _ _ _ _ _)
   | (with_reducible exact cenotaphref02_Add.mono _ _ _ _)
   | (with_reducible exact LeO.refl _)
   | (with_reducible exact LeO.none _)
   | (with_reducible refine LeO.ite ?_ ?_)
   | (with_reducible refine LeO.bind ?_ (fun _ => ?_))
   | exact ih0 _ _ _ _ _ _ _
   | exact ih1 _ _ _ _ _
   | exact cenotaphref02_Add.mono _ _ _ _
   | exact LeO.none _
   | refine LeO.ite ?_ ?_
   | refine LeO.bind ?_ (fun _ => ?_)
def cenotaphref02_Union_t.T7 : Bool × List (List Nat × List Nat) := (true, [([], []), ([], []), ([1], [1]), ([], []), ([2, 3], [2, 3]), ([4], [4]), ([0, 5], [0, 5]), ([6, 6, 0, 1, 2, 3, 4, 5, 6], [6])])
def cenotaphref02_Union_t.B7 : List Nat := [0, 0, 2, 0, 14, 30, 63, 127]
theorem cenotaphref02_Union_t.tab7 : rtab .any (opsOf Try.f56 7) = cenotaphref02_Union_t.T7 := by kernel_rfl
theorem cenotaphref02_Union_t.bits7 : waitsOk cenotaphref02_Union_t.T7.2 cenotaphref02_Union_t.B7 = true := by kernel_rfl
def cenotaphref02_Union_t.T11 : Bool × List (List Nat × List Nat) := (true, [([], []), ([], []), ([1], [1]), ([], []), ([2, 3], [2, 3]), ([4], [4]), ([0, 5], [0, 5]), ([6, 6, 0, 1, 2, 3, 4, 5, 6], [6])])
def cenotaphref02_Union_t.B11 : List Nat := [0, 0, 2, 0, 14, 30, 63, 127]
theorem cenotaphref02_Union_t.tab11 : rtab .any (opsOf Try.f56 11) = cenotaphref02_Union_t.T11 := by kernel_rfl
theorem cenotaphref02_Union_t.bits11 : waitsOk cenotaphref02_Union_t.T11.2 cenotaphref02_Union_t.B11 = true := by kernel_rfl
set_option maxHeartbeats 8000000 in
set_option maxRecDepth 100000 in
theorem cenotaphref02_Union_t.calls (k : Nat) (a0_0 : Int) (A0_1 : Option Addr) (c0_1 : Nat) (l0_1 : List Int) (a1_0 : Int) (A1_1 : Option Addr) (c1_1 : Nat) (l1_1 : List Int) (r1 : Int) (r2 : List Int) (w : World) (hr0_1 : Kd.C (Kd.int .i64) w A0_1 l0_1.length l0_1) (hc0_1 : l0_1.length ≤ c0_1) (hr1_1 : Kd.C (Kd.int .i64) w A1_1 l1_1.length l1_1) (hc1_1 : l1_1.length ≤ c1_1) (h : cenotaphref02_Union_t.f k a0_0 l0_1 a1_0 l1_1 = some (r1, r2)) :
  Calls Try.prog 56 #[.agg #[.int .i64 a0_0, .slice A0_1 l0_1.length c0_1], .agg #[.int .i64 a1_0, .slice A1_1 l1_1.length c1_1]] w fun e w' => ∃ v1_ : Value, e = .returned (.agg #[.int .i64 r1, v1_]) ∧ Kd.R (Kd.int .i64) 3 w' w.heap.size (fun _ => True) v1_ r2 ∧ Below w.heap.size w w' := by
 have hu25 := Try.underlying25
 have HR0_1 := Aside0.mk hr0_1
 have HC0_1 := Aside0.mk hc0_1
 clear hr0_1 hc0_1
 have HR1_1 := Aside0.mk hr1_1
 have HC1_1 := Aside0.mk hc1_1
 clear hr1_1 hc1_1
 have HB := Aside0.mk (Below.refl w.heap.size w)
 have H : (if a1_0 > a0_0 then (cenotaphref02_Union_t.l0 k 0 a1_0 l1_1 a0_0 l0_1 a1_0 ([] : List Int)) else (none)) = some (r1, r2) := h
 clear h
 by_cases c3 : a1_0 > a0_0
 ·rw [if_pos c3] at H
  have c3b0 : decide (a0_0 < a1_0) = true := decide_eq_true c3
  clear c3
  have H' := Aside0.mk H
  clear H
  go_enter Try.func56, Try.ntmps56
  go_wp2_with (first | ((with_reducible refine gate_dst (N := 2) rfl ?_); refine box_event ?hg (N := 2) ?hd (cs := #[.int .i64 a0_0, .slice A0_1 l0_1.length c0_1]) (t := 25) ?hr ?_; (case hd => rfl); (case hg => rfl); (case hr => first | (go_simp; done) | (go_simp; rfl)); intro gb421 hg w4 hbox hb; have BK421 := Aside0.mk (hbox); have GW421 := Aside0.mk (((by rw [hg]; exact (below_size zq56x_7)) : w.heap.size ≤ gb421)); have GE421 := Aside0.mk (((by rw [hg]; exact (below_size zq56x_7)) : w.heap.size ≤ gb421)); replace HB := Aside0.mk (below_step zq56x_7 hb); clear hb hbox hg) | ((with_reducible refine gate_dst (N := 3) rfl ?_); refine box_event ?hg (N := 3) ?hd (cs := #[.int .i64 a1_0, .slice A1_1 l1_1.length c1_1]) (t := 25) ?hr ?_; (case hd => rfl); (case hg => rfl); (case hr => first | (go_simp; done) | (go_simp; rfl)); intro gb422 hg w5 hbox hb; have BK422 := Aside0.mk (hbox); have GW422 := Aside0.mk (((by rw [hg]; exact (below_size zq56x_6)) : w.heap.size ≤ gb422)); have GE422 := Aside0.mk (((by rw [hg]; exact (below_size zq56x_6)) : w.heap.size ≤ gb422)); replace HB := Aside0.mk (below_step zq56x_6 hb); have NB421_422 := Aside0.mk (((by rw [hg]; exact Nat.ne_of_lt (blk_lt (g := gb421) (o := .cells #[.int .i64 a0_0, .slice A0_1 l0_1.length c0_1] 25 (0, 0)) zq56x_8)) : gb421 ≠ gb422)); have NB422_421 := Aside0.mk (((by rw [hg]; exact Nat.ne_of_gt (blk_lt (g := gb421) (o := .cells #[.int .i64 a0_0, .slice A0_1 l0_1.length c0_1] 25 (0, 0)) zq56x_8)) : gb422 ≠ gb421)); replace BK421 := Aside0.mk (blk_below (g := gb421) (o := .cells #[.int .i64 a0_0, .slice A0_1 l0_1.length c0_1] 25 (0, 0)) zq56x_8 hb); clear hb hbox hg) | ((with_reducible refine gate_dst (N := 4) rfl ?_); refine box_event ?hg (N := 4) ?hd (cs := #[.int .i64 0, .slice none 0 0]) (t := 25) ?hr ?_; (case hd => rfl); (case hg => rfl); (case hr => first | (go_simp; done) | (go_simp; rfl)); intro gb423 hg w6 hbox hb; have BK423 := Aside0.mk (hbox); have GW423 := Aside0.mk (((by rw [hg]; exact (below_size zq56x_5)) : w.heap.size ≤ gb423)); have GE423 := Aside0.mk (((by rw [hg]; exact (below_size zq56x_5)) : w.heap.size ≤ gb423)); replace HB := Aside0.mk (below_step zq56x_5 hb); have NB421_423 := Aside0.mk (((by rw [hg]; exact Nat.ne_of_lt (blk_lt (g := gb421) (o := .cells #[.int .i64 a0_0, .slice A0_1 l0_1.length c0_1] 25 (0, 0)) zq56x_8)) : gb421 ≠ gb423)); have NB423_421 := Aside0.mk (((by rw [hg]; exact Nat.ne_of_gt (blk_lt (g := gb421) (o := .cells #[.int .i64 a0_0, .slice A0_1 l0_1.length c0_1] 25 (0, 0)) zq56x_8)) : gb423 ≠ gb421)); replace BK421 := Aside0.mk (blk_below (g := gb421) (o := .cells #[.int .i64 a0_0, .slice A0_1 l0_1.length c0_1] 25 (0, 0)) zq56x_8 hb); have NB422_423 := Aside0.mk (((by rw [hg]; exact Nat.ne_of_lt (blk_lt (g := gb422) (o := .cells #[.int .i64 a1_0, .slice A1_1 l1_1.length c1_1] 25 (0, 0)) zq56x_9)) : gb422 ≠ gb423)); have NB423_422 := Aside0.mk (((by rw [hg]; exact Nat.ne_of_gt (blk_lt (g := gb422) (o := .cells #[.int .i64 a1_0, .slice A1_1 l1_1.length c1_1] 25 (0, 0)) zq56x_9)) : gb423 ≠ gb422)); replace BK422 := Aside0.mk (blk_below (g := gb422) (o := .cells #[.int .i64 a1_0, .slice A1_1 l1_1.length c1_1] 25 (0, 0)) zq56x_9 hb); clear hb hbox hg; have hnb7 := NB422_421.out; have hnc7 := NB421_422.out; have hnb8 := NB422_423.out; have hnc8 := NB423_422.out; have hcz9_0 : w6.cell? ⟨gb422, 0, none⟩ = some (.int .i64 a1_0) := (blk_cell BK422.out 0).trans rfl; have hcz9_1 : w6.cell? ⟨gb422, 1, none⟩ = some (.slice A1_1 l1_1.length c1_1) := (blk_cell BK422.out 1).trans rfl; have hfz9_0 := blk_frozen BK422.out 0; have hfz9_1 := blk_frozen BK422.out 1; have hnb10 := NB421_423.out; have hnc10 := NB423_421.out; have hcz11_0 : w6.cell? ⟨gb421, 0, none⟩ = some (.int .i64 a0_0) := (blk_cell BK421.out 0).trans rfl; have hcz11_1 : w6.cell? ⟨gb421, 1, none⟩ = some (.slice A0_1 l0_1.length c0_1) := (blk_cell BK421.out 1).trans rfl; have hfz11_0 := blk_frozen BK421.out 0; have hfz11_1 := blk_frozen BK421.out 1) | ((with_reducible refine gate_dst (N := 5) rfl ?_); refine box_event ?hg (N := 5) ?hd (cs := #[.int .i64 0, .slice none 0 0]) (t := 25) ?hr ?_; (case hd => rfl); (case hg => rfl); (case hr => first | (go_simp; done) | (go_simp; rfl)); intro gb424 hg w12 hbox hb; have BK424 := Aside0.mk (hbox); have GW424 := Aside0.mk (((by rw [hg]; exact (below_size zq56x_4)) : w.heap.size ≤ gb424)); have GE424 := Aside0.mk (((by rw [hg]; exact (below_size zq56x_4)) : w.heap.size ≤ gb424)); replace HB := Aside0.mk (below_step zq56x_4 hb); have NB421_424 := Aside0.mk (((by rw [hg]; exact Nat.ne_of_lt (blk_lt (g := gb421) (o := .cells #[.int .i64 a1_0, .slice A1_1 l1_1.length c1_1] 25 (0, 0)) zq56x_0)) : gb421 ≠ gb424)); have NB424_421 := Aside0.mk (((by rw [hg]; exact Nat.ne_of_gt (blk_lt (g := gb421) (o := .cells #[.int .i64 a1_0, .slice A1_1 l1_1.length c1_1] 25 (0, 0)) zq56x_0)) : gb424 ≠ gb421)); replace BK421 := Aside0.mk (blk_below (g := gb421) (o := .cells #[.int .i64 a1_0, .slice A1_1 l1_1.length c1_1] 25 (0, 0)) zq56x_0 hb); have NB422_424 := Aside0.mk (((by rw [hg]; exact Nat.ne_of_lt (blk_lt (g := gb422) (o := .cells #[.int .i64 a0_0, .slice A0_1 l0_1.length c0_1] 25 (0, 0)) zq56x_1)) : gb422 ≠ gb424)); have NB424_422 := Aside0.mk (((by rw [hg]; exact Nat.ne_of_gt (blk_lt (g := gb422) (o := .cells #[.int .i64 a0_0, .slice A0_1 l0_1.length c0_1] 25 (0, 0)) zq56x_1)) : gb424 ≠ gb422)); replace BK422 := Aside0.mk (blk_below (g := gb422) (o := .cells #[.int .i64 a0_0, .slice A0_1 l0_1.length c0_1] 25 (0, 0)) zq56x_1 hb); have NB423_424 := Aside0.mk (((by rw [hg]; exact Nat.ne_of_lt (blk_lt (g := gb423) (o := .cells #[.int .i64 0, .slice none 0 0] 25 (0, 0)) zq56x_2)) : gb423 ≠ gb424)); have NB424_423 := Aside0.mk (((by rw [hg]; exact Nat.ne_of_gt (blk_lt (g := gb423) (o := .cells #[.int .i64 0, .slice none 0 0] 25 (0, 0)) zq56x_2)) : gb424 ≠ gb423)); replace BK423 := Aside0.mk (blk_below (g := gb423) (o := .cells #[.int .i64 0, .slice none 0 0] 25 (0, 0)) zq56x_2 hb); clear hb hbox hg; have hnb13 := NB424_421.out; have hnc13 := NB421_424.out; have hnb14 := NB424_422.out; have hnc14 := NB422_424.out; have hnb15 := NB424_423.out; have hnc15 := NB423_424.out; have hcz16_0 : w12.cell? ⟨gb424, 0, none⟩ = some (.int .i64 0) := (blk_cell BK424.out 0).trans rfl; have hcz16_1 : w12.cell? ⟨gb424, 1, none⟩ = some (.slice none 0 0) := (blk_cell BK424.out 1).trans rfl; have hfz16_0 := blk_frozen BK424.out 0; have hfz16_1 := blk_frozen BK424.out 1))
  go_loopg [6] k (fun kq v6 w' => ∃ (x6_1 : Int) (x425000_1 : Int) (x425001_1 : List Int) (u425001 : Value), v6 = .int .i64 x6_1 ∧ Aside0 (cenotaphref02_Union_t.l0 kq x6_1 a1_0 l1_1 a0_0 l0_1 x425000_1 x425001_1 = some (r1, r2)) ∧ Aside0 (kq ≤ k) ∧ Aside0 (Kd.R (Kd.int .i64) 3 w' w.heap.size (fun _ => True) u425001 x425001_1) ∧ Aside0 (w'.heap[gb421]? = some (.cells #[.int .i64 a1_0, (.slice A1_1 l1_1.length c1_1)] 25 (0, 0))) ∧ Aside0 (w'.heap[gb422]? = some (.cells #[.int .i64 a0_0, (.slice A0_1 l0_1.length c0_1)] 25 (0, 0))) ∧ Aside0 (w'.heap[gb423]? = some (.cells #[.int .i64 0, (.slice none 0 0)] 25 (0, 0))) ∧ Aside0 (w'.heap[gb424]? = some (.cells #[.int .i64 x425000_1, u425001] 25 (0, 0))) ∧ Aside0 (Below w.heap.size w w'))
  case atStart => exact ⟨(0), (a1_0), (([] : List Int)), (.slice none 0 0), zq56x_12, H', ⟨Nat.le_refl _⟩, ⟨by first | exact Kd.R_nil _ _ _ _ _ | exact Kd.N_nil _ _ _ _ _ | exact Kd.V_nil _ _ _ _ _ | exact Kd.Q_nil _ _ _ _ _ | exact Kd.S_nil _ _ _ _ _⟩, ⟨by (with_reducible repeat (first | refine blk_drewN ?_ _ | refine blk_drew ?_ | refine blk_alloc ?_ _)); refine blk_far ?_ NB421_424.out _; (with_reducible repeat (first | refine blk_drewN ?_ _ | refine blk_drew ?_ | refine blk_alloc ?_ _)); refine blk_far ?_ NB421_424.out _; (with_reducible repeat (first | refine blk_drewN ?_ _ | refine blk_drew ?_ | refine blk_alloc ?_ _)); exact BK421.out⟩, ⟨by (with_reducible repeat (first | refine blk_drewN ?_ _ | refine blk_drew ?_ | refine blk_alloc ?_ _)); refine blk_far ?_ NB422_424.out _; (with_reducible repeat (first | refine blk_drewN ?_ _ | refine blk_drew ?_ | refine blk_alloc ?_ _)); refine blk_far ?_ NB422_424.out _; (with_reducible repeat (first | refine blk_drewN ?_ _ | refine blk_drew ?_ | refine blk_alloc ?_ _)); exact BK422.out⟩, ⟨by (with_reducible repeat (first | refine blk_drewN ?_ _ | refine blk_drew ?_ | refine blk_alloc ?_ _)); refine blk_far ?_ NB423_424.out _; (with_reducible repeat (first | refine blk_drewN ?_ _ | refine blk_drew ?_ | refine blk_alloc ?_ _)); refine blk_far ?_ NB423_424.out _; (with_reducible repeat (first | refine blk_drewN ?_ _ | refine blk_drew ?_ | refine blk_alloc ?_ _)); exact BK423.out⟩, ⟨by (with_reducible repeat (first | refine blk_drewN ?_ _ | refine blk_drew ?_ | refine blk_alloc ?_ _)); refine blk_put (cs := #[.int .i64 a1_0, .slice none 0 0]) ?_ 1 _ rfl; (with_reducible repeat (first | refine blk_drewN ?_ _ | refine blk_drew ?_ | refine blk_alloc ?_ _)); refine blk_put (cs := #[.int .i64 0, .slice none 0 0]) ?_ 0 _ rfl; (with_reducible repeat (first | refine blk_drewN ?_ _ | refine blk_drew ?_ | refine blk_alloc ?_ _)); exact BK424.out⟩, ⟨by repeat (first | (with_reducible first | exact HB.out | apply below_alloc | apply pw_below_drewN | apply below_drew1 | refine below_set ?_ GE421.out | refine below_set ?_ GE422.out | refine below_set ?_ GE423.out | refine below_set ?_ GE424.out) | exact HB.out)⟩⟩
  case round =>
   clear H'
   try clear c1
   try clear p2
   try clear c3
   try clear c3b0
   try clear c5
   try clear c7
   try clear c8
   try clear c10
   try clear c13
   try clear c14
   try clear c15
   try clear hcz11_0
   try clear hcz11_1
   try clear hcz16_0
   try clear hcz16_1
   try clear hcz9_0
   try clear hcz9_1
   try clear hfz11_0
   try clear hfz11_1
   try clear hfz16_0
   try clear hfz16_1
   try clear hfz9_0
   try clear hfz9_1
   obtain ⟨x6_1, x425000_1, x425001_1, u425001, rfl, HA, HK1, HO_425001, BK421, BK422, BK423, BK424, HB⟩ := hrel
   cases gk with
   | zero => exact absurd HA.out (by simp [cenotaphref02_Union_t.l0])
   | succ k1 =>
    have H := HA.out
    clear HA
    simp only [cenotaphref02_Union_t.l0] at H
    by_cases c17 : x6_1 < (l1_1.length : Int)
    ·rw [if_pos c17] at H
     have c17b0 : decide (x6_1 < (l1_1.length : Int)) = true := decide_eq_true c17
     clear c17
     by_cases c18 : 0 ≤ x6_1
     ·rw [if_pos c18] at H
      have c18b0 : decide (0 ≤ x6_1) = true := decide_eq_true c18
      clear c18
      replace H := Option.bind_eq_some_iff.mp H
      obtain ⟨⟨t426, t427⟩, A190, H⟩ := H
      replace H : (cenotaphref02_Union_t.l0 k1 (wrap64 (x6_1 + 1)) a1_0 l1_1 a0_0 l0_1 t426 t427) = some (r1, r2) := H
      have A19 := Aside0.mk A190
      clear A190
      have H' := Aside0.mk H
      clear H
      have hnb20 := NB421_422.out
      have hnc20 := NB422_421.out
      have hnb21 := NB421_423.out
      have hnc21 := NB423_421.out
      have hnb22 := NB421_424.out
      have hnc22 := NB424_421.out
      have hcz23_0 : wr.cell? ⟨gb421, 0, none⟩ = some (.int .i64 a1_0) := (blk_cell BK421.out 0).trans rfl
      have hcz23_1 : wr.cell? ⟨gb421, 1, none⟩ = some (.slice A1_1 l1_1.length c1_1) := (blk_cell BK421.out 1).trans rfl
      have hfz23_0 := blk_frozen BK421.out 0
      have hfz23_1 := blk_frozen BK421.out 1
      try go_wp2
      replace HO_425001 := Aside0.mk (Kd.R_drew HO_425001.out)
      replace BK421 := Aside0.mk (blk_drew BK421.out)
      replace BK422 := Aside0.mk (blk_drew BK422.out)
      replace BK423 := Aside0.mk (blk_drew BK423.out)
      replace BK424 := Aside0.mk (blk_drew BK424.out)
      replace HB := Aside0.mk (below_drew1 HB.out)
      have p425 : 0 ≤ (x6_1 : Int) := of_decide_eq_true zq56x_11
      have q425 : x6_1 < (l1_1.length : Int) := of_decide_eq_true zq56x_11
      obtain ⟨ad425, e425, hx425_0⟩ := Kd.at_int HR1_1.out x6_1 p425 q425
      have hw425_0 := hx425_0
      cases e425
      replace hx425_0 := (HB.out.cell (World.block_lt_of_cell? w _ hx425_0)).trans hx425_0
      replace p425 := eq_true p425
      replace q425 := eq_true q425
      obtain ⟨Ao25, co25, eo25⟩ := Kd.R_slice HO_425001.out
      (first | subst eo25 | (injection eo25 with f1_ f2_ f3_; have f4_ := f1_.symm; have f5_ := f3_.symm; clear f1_ f2_ f3_; subst f4_; subst f5_))
      refine start_ (n := 8) (S := fun w' => w'.cell? ⟨gb424, 0, none⟩ = some (.int .i64 x425000_1) ∧ w'.cell? ⟨gb424, 1, none⟩ = some (.slice Ao25 x425001_1.length co25) ∧ w'.cell? ⟨gb421, 0, none⟩ = some (.int .i64 a1_0) ∧ w'.cell? ⟨gb421, 1, none⟩ = some (.slice (some ad425) l1_1.length c1_1) ∧ w'.cell? (ad425.add (x6_1).toNat) = some (.int .i64 (rd l1_1 x6_1))) (ds := [7]) #[false, false, false, false, false, false, false, false] (by kernel_rfl) rfl rfl ⟨(blk_cell BK424.out 0).trans rfl, (blk_cell BK424.out 1).trans rfl, (blk_cell BK421.out 0).trans rfl, (blk_cell BK421.out 1).trans rfl, ((HB.out.cell (World.block_lt_of_cell? w _ hw425_0)).trans hw425_0)⟩ (fun hHeld => ?_); refine with_tabW cenotaphref02_Union_t.tab7 cenotaphref02_Union_t.bits7 (fun HT_ HW_ => ?_)
      generalize wr.drew = w24 at HO_425001 BK421 BK422 BK423 BK424 HB hx425_0 hHeld ⊢
      refine p_ 1 26 (mk_ 8 0x2) ?_
      refine p_ 3 28 (mk_ 8 0xa) ?_
      refine t_ 0 25 (mk_ 8 0xb) hHeld ?_
      refine t_ 2 27 (mk_ 8 0xf) hHeld ?_
      refine p_ 4 29 (mk_ 8 0x1f) ?_
      refine t_ 5 30 (mk_ 8 0x3f) hHeld ?_
      refine one_ (i := 6) (N := some 31) #[true, true, true, true, true, true, true, false] rfl rfl (one_of HT_.out (by kernel_rfl)) (by decide) (fun K hK => ?_)
      refine goes_ Try.func51 (by kernel_rfl) rfl #[.agg #[.int .i64 x425000_1, .slice Ao25 x425001_1.length co25], .int .i64 (rd l1_1 x6_1)] (by rfl) rfl rfl (by (try simp only [List.map_toArray, List.map_cons, List.map_nil]); first | done | rfl | (simp only [List.length_drop, List.length_take]; rfl)) ?_
      with_reducible refine (cenotaphref02_Add.calls k1 x425000_1 _ _ x425001_1 (rd l1_1 x6_1) t426 t427 _ ?side1 ?side2 A19.out).mono ?_
      (case side1 => repeat (first | exact (Kd.R_reads' HO_425001.out).2.2 | (with_reducible refine Kd.C_alloc ?_ _) | (with_reducible refine Kd.C_drewN ?_ _) | (with_reducible refine Kd.C_drew ?_)))
      (case side2 => exact (Kd.R_reads' HO_425001.out).2.1)
      rintro e w26 ⟨v428, rfl, ho0, hb⟩
      refine ⟨_, rfl, ?_⟩
      have HO429 := Aside0.mk (Kd.R_lower (Kd.R_new' ho0 (Kd.R_lt zq56x_10)) (below_size zq56x_3))
      replace HO_425001 := Aside0.mk (Kd.R_elder' zq56x_10 (Kd.R_base ho0) hb)
      replace BK421 := Aside0.mk (blk_below (g := gb421) (o := .cells #[.int .i64 a1_0, .slice (some ad425) l1_1.length c1_1] 25 (0, 0)) zq56x_8 hb)
      replace BK422 := Aside0.mk (blk_below (g := gb422) (o := .cells #[.int .i64 a0_0, .slice A0_1 l0_1.length c0_1] 25 (0, 0)) zq56x_9 hb)
      replace BK423 := Aside0.mk (blk_below (g := gb423) (o := .cells #[.int .i64 0, .slice none 0 0] 25 (0, 0)) (by (with_reducible repeat (first | refine blk_drewN ?_ _ | refine blk_drew ?_ | refine blk_alloc ?_ _)); exact BK423.out) hb)
      replace BK424 := Aside0.mk (blk_below (g := gb424) (o := .cells #[.int .i64 x425000_1, .slice Ao25 x425001_1.length co25] 25 (0, 0)) (by (with_reducible repeat (first | refine blk_drewN ?_ _ | refine blk_drew ?_ | refine blk_alloc ?_ _)); exact BK424.out) hb)
      replace HB := Aside0.mk (below_step zq56x_3 hb)
      (try clear hb)
      (try clear hb2)
      (try clear hk)
      (try clear hi)
      (try clear ho0)
      obtain ⟨Ao28, co28, eo28⟩ := Kd.R_slice HO429.out
      (first | subst eo28 | (injection eo28 with f1_ f2_ f3_; have f4_ := f1_.symm; have f5_ := f3_.symm; clear f1_ f2_ f3_; subst f4_; subst f5_))
      refine hK.out _ _ ⟨(blk_cell BK424.out 0).trans rfl, (blk_cell BK424.out 1).trans rfl, (blk_cell BK421.out 0).trans rfl, (blk_cell BK421.out 1).trans rfl, ((HB.out.cell (World.block_lt_of_cell? w _ hw425_0)).trans hw425_0)⟩ (fun hHeld => ?_)
      clear hK K
      refine norm_ (a' := ?_) ?_ ?_
      rotate_left
      ·show Act.put _ (some 31) _ = _
       simp only [Act.put, List.setIfInBounds_toArray, List.set_cons_zero, List.set_cons_succ, i64_w, i32_w]
       rfl
      refine last_ (i := 7) (N := none) #[true, true, true, true, true, true, true, true] rfl rfl (one_of HT_.out (by kernel_rfl)) (by decide) (fun K hK => ?_)
      have hs27 : w26.cell? ⟨gb424, 0, none⟩ = some (.int .i64 x425000_1) := (blk_cell BK424.out 0).trans rfl
      have hfs27 := blk_frozen BK424.out 0
      have hns27_0 := NB421_424.out
      have hns27_1 := NB422_424.out
      have hns27_2 := NB423_424.out
      have hms27_0 := NB424_421.out
      have hms27_1 := NB424_422.out
      have hms27_2 := NB424_423.out
      have hs29 : w26.cell? ⟨gb424, 1, none⟩ = some (.slice Ao25 x425001_1.length co25) := (blk_cell BK424.out 1).trans rfl
      have hfs29 := blk_frozen BK424.out 1
      have hns29_0 := NB421_424.out
      have hns29_1 := NB422_424.out
      have hns29_2 := NB423_424.out
      have hms29_0 := NB424_421.out
      have hms29_1 := NB424_422.out
      have hms29_2 := NB424_423.out
      refine skip_ (w1 := ?_) (by rfl) rfl ?_ ?_
      rotate_left
      ·go_simp
       rfl
      refine hK.out _ _ ?_
      clear hK K
      refine done_ (done_of HT_.out (by kernel_rfl)) ?_
      try go_wp2
      go_roundg k1
      case measure => have := HK1.out; omega
      case rel => exact ⟨(wrap64 (x6_1 + 1)), (t426), (t427), (.slice Ao28 t427.length co28), zq56x_12, H', ⟨by have := HK1.out; omega⟩, ⟨by (with_reducible repeat (first | apply Kd.R_alloc | apply Kd.R_drewN | apply Kd.R_drew)); exact Kd.R_mono (Kd.R_far (p := ⟨gb424, 1, none⟩) (Kd.R_far (p := ⟨gb424, 0, none⟩) (Kd.R_types HO429.out BK424.out (by decide)) (fun _ hk => hk.2) (.int .i64 t426)) (fun _ hk => hk.2) (.slice Ao28 t427.length co28)) (fun _ hk => trivial)⟩, ⟨by (with_reducible repeat (first | refine blk_drewN ?_ _ | refine blk_drew ?_ | refine blk_alloc ?_ _)); refine blk_far ?_ NB421_424.out _; (with_reducible repeat (first | refine blk_drewN ?_ _ | refine blk_drew ?_ | refine blk_alloc ?_ _)); refine blk_far ?_ NB421_424.out _; (with_reducible repeat (first | refine blk_drewN ?_ _ | refine blk_drew ?_ | refine blk_alloc ?_ _)); exact BK421.out⟩, ⟨by (with_reducible repeat (first | refine blk_drewN ?_ _ | refine blk_drew ?_ | refine blk_alloc ?_ _)); refine blk_far ?_ NB422_424.out _; (with_reducible repeat (first | refine blk_drewN ?_ _ | refine blk_drew ?_ | refine blk_alloc ?_ _)); refine blk_far ?_ NB422_424.out _; (with_reducible repeat (first | refine blk_drewN ?_ _ | refine blk_drew ?_ | refine blk_alloc ?_ _)); exact BK422.out⟩, ⟨by (with_reducible repeat (first | refine blk_drewN ?_ _ | refine blk_drew ?_ | refine blk_alloc ?_ _)); refine blk_far ?_ NB423_424.out _; (with_reducible repeat (first | refine blk_drewN ?_ _ | refine blk_drew ?_ | refine blk_alloc ?_ _)); refine blk_far ?_ NB423_424.out _; (with_reducible repeat (first | refine blk_drewN ?_ _ | refine blk_drew ?_ | refine blk_alloc ?_ _)); exact BK423.out⟩, ⟨by (with_reducible repeat (first | refine blk_drewN ?_ _ | refine blk_drew ?_ | refine blk_alloc ?_ _)); refine blk_put (cs := #[.int .i64 t426, .slice Ao25 x425001_1.length co25]) ?_ 1 _ rfl; (with_reducible repeat (first | refine blk_drewN ?_ _ | refine blk_drew ?_ | refine blk_alloc ?_ _)); refine blk_put (cs := #[.int .i64 x425000_1, .slice Ao25 x425001_1.length co25]) ?_ 0 _ rfl; (with_reducible repeat (first | refine blk_drewN ?_ _ | refine blk_drew ?_ | refine blk_alloc ?_ _)); exact BK424.out⟩, ⟨by repeat (first | (with_reducible first | exact HB.out | apply below_alloc | apply pw_below_drewN | apply below_drew1 | refine below_set ?_ GE421.out | refine below_set ?_ GE422.out | refine below_set ?_ GE423.out | refine below_set ?_ GE424.out) | exact HB.out)⟩⟩
     ·rw [if_neg c18] at H
      exact absurd H (by simp)
    ·rw [if_neg c17] at H
     have c17b0 : decide (x6_1 < (l1_1.length : Int)) = false := decide_eq_false c17
     clear c17
     have H' := Aside0.mk H
     clear H
     have hnb30 := NB421_422.out
     have hnc30 := NB422_421.out
     have hnb31 := NB421_423.out
     have hnc31 := NB423_421.out
     have hnb32 := NB421_424.out
     have hnc32 := NB424_421.out
     have hcz33_0 : wr.cell? ⟨gb421, 0, none⟩ = some (.int .i64 a1_0) := (blk_cell BK421.out 0).trans rfl
     have hcz33_1 : wr.cell? ⟨gb421, 1, none⟩ = some (.slice A1_1 l1_1.length c1_1) := (blk_cell BK421.out 1).trans rfl
     have hfz33_0 := blk_frozen BK421.out 0
     have hfz33_1 := blk_frozen BK421.out 1
     go_wp2
     go_loopg [7] k1 (fun kq v7 w' => ∃ (x7_2 : Int) (x425000_2 : Int) (x425001_2 : List Int) (u425001 : Value), v7 = .int .i64 x7_2 ∧ Aside0 (cenotaphref02_Union_t.l1 kq x7_2 a0_0 l0_1 x425000_2 x425001_2 = some (r1, r2)) ∧ Aside0 (kq ≤ k1) ∧ Aside0 (Kd.R (Kd.int .i64) 3 w' w.heap.size (fun _ => True) u425001 x425001_2) ∧ Aside0 (w'.heap[gb421]? = some (.cells #[.int .i64 a1_0, (.slice A1_1 l1_1.length c1_1)] 25 (0, 0))) ∧ Aside0 (w'.heap[gb422]? = some (.cells #[.int .i64 a0_0, (.slice A0_1 l0_1.length c0_1)] 25 (0, 0))) ∧ Aside0 (w'.heap[gb423]? = some (.cells #[.int .i64 0, (.slice none 0 0)] 25 (0, 0))) ∧ Aside0 (w'.heap[gb424]? = some (.cells #[.int .i64 x425000_2, u425001] 25 (0, 0))) ∧ Aside0 (Below w.heap.size w w'))
     case atStart => exact ⟨(0), (x425000_1), (x425001_1), (u425001), zq56x_12, H', ⟨Nat.le_refl _⟩, ⟨by (with_reducible repeat (first | apply Kd.R_alloc | apply Kd.R_drewN | apply Kd.R_drew)); exact HO_425001.out⟩, ⟨by (with_reducible repeat (first | refine blk_drewN ?_ _ | refine blk_drew ?_ | refine blk_alloc ?_ _)); exact BK421.out⟩, ⟨by (with_reducible repeat (first | refine blk_drewN ?_ _ | refine blk_drew ?_ | refine blk_alloc ?_ _)); exact BK422.out⟩, ⟨by (with_reducible repeat (first | refine blk_drewN ?_ _ | refine blk_drew ?_ | refine blk_alloc ?_ _)); exact BK423.out⟩, ⟨by (with_reducible repeat (first | refine blk_drewN ?_ _ | refine blk_drew ?_ | refine blk_alloc ?_ _)); exact BK424.out⟩, ⟨by repeat (first | (with_reducible first | exact HB.out | apply below_alloc | apply pw_below_drewN | apply below_drew1 | refine below_set ?_ GE421.out | refine below_set ?_ GE422.out | refine below_set ?_ GE423.out | refine below_set ?_ GE424.out) | exact HB.out)⟩⟩
     case round =>
      clear H'
      try clear c1
      try clear c2
      try clear p2
      try clear c3
      try clear c3b0
      try clear p4
      try clear q4
      try clear hx4
      try clear c5
      try clear p6
      try clear c7
      try clear c8
      try clear c10
      try clear c13
      try clear c14
      try clear c15
      try clear c17
      try clear c17b0
      try clear c18
      try clear c18b0
      try clear c20
      try clear c21
      try clear c22
      try clear c30
      try clear c31
      try clear c32
      try clear hcz11_0
      try clear hcz11_1
      try clear hcz16_0
      try clear hcz16_1
      try clear hcz23_0
      try clear hcz23_1
      try clear hcz33_0
      try clear hcz33_1
      try clear hcz9_0
      try clear hcz9_1
      try clear hfz11_0
      try clear hfz11_1
      try clear hfz16_0
      try clear hfz16_1
      try clear hfz23_0
      try clear hfz23_1
      try clear hfz33_0
      try clear hfz33_1
      try clear hfz9_0
      try clear hfz9_1
      try clear hx425_0
      try clear p2
      try clear p425
      try clear q425
      obtain ⟨x7_2, x425000_2, x425001_2, u425001, rfl, HA, HK2, HO_425001, BK421, BK422, BK423, BK424, HB⟩ := hrel
      cases gk with
      | zero => exact absurd HA.out (by simp [cenotaphref02_Union_t.l1])
      | succ k2 =>
       have H := HA.out
       clear HA
       simp only [cenotaphref02_Union_t.l1] at H
       by_cases c34 : x7_2 < (l0_1.length : Int)
       ·rw [if_pos c34] at H
        have c34b0 : decide (x7_2 < (l0_1.length : Int)) = true := decide_eq_true c34
        clear c34
        by_cases c35 : 0 ≤ x7_2
        ·rw [if_pos c35] at H
         have c35b0 : decide (0 ≤ x7_2) = true := decide_eq_true c35
         clear c35
         replace H := Option.bind_eq_some_iff.mp H
         obtain ⟨⟨t431, t432⟩, A360, H⟩ := H
         replace H : (cenotaphref02_Union_t.l1 k2 (wrap64 (x7_2 + 1)) a0_0 l0_1 t431 t432) = some (r1, r2) := H
         have A36 := Aside0.mk A360
         clear A360
         have H' := Aside0.mk H
         clear H
         have hnb37 := NB422_421.out
         have hnc37 := NB421_422.out
         have hnb38 := NB422_423.out
         have hnc38 := NB423_422.out
         have hnb39 := NB422_424.out
         have hnc39 := NB424_422.out
         have hcz40_0 : wr.cell? ⟨gb422, 0, none⟩ = some (.int .i64 a0_0) := (blk_cell BK422.out 0).trans rfl
         have hcz40_1 : wr.cell? ⟨gb422, 1, none⟩ = some (.slice A0_1 l0_1.length c0_1) := (blk_cell BK422.out 1).trans rfl
         have hfz40_0 := blk_frozen BK422.out 0
         have hfz40_1 := blk_frozen BK422.out 1
         try go_wp2
         replace HO_425001 := Aside0.mk (Kd.R_drew HO_425001.out)
         replace BK421 := Aside0.mk (blk_drew BK421.out)
         replace BK422 := Aside0.mk (blk_drew BK422.out)
         replace BK423 := Aside0.mk (blk_drew BK423.out)
         replace BK424 := Aside0.mk (blk_drew BK424.out)
         replace HB := Aside0.mk (below_drew1 HB.out)
         have p430 : 0 ≤ (x7_2 : Int) := of_decide_eq_true zq56x_11
         have q430 : x7_2 < (l0_1.length : Int) := of_decide_eq_true zq56x_11
         obtain ⟨ad430, e430, hx430_0⟩ := Kd.at_int HR0_1.out x7_2 p430 q430
         have hw430_0 := hx430_0
         cases e430
         replace hx430_0 := (HB.out.cell (World.block_lt_of_cell? w _ hx430_0)).trans hx430_0
         replace p430 := eq_true p430
         replace q430 := eq_true q430
         obtain ⟨Ao42, co42, eo42⟩ := Kd.R_slice HO_425001.out
         (first | subst eo42 | (injection eo42 with f1_ f2_ f3_; have f4_ := f1_.symm; have f5_ := f3_.symm; clear f1_ f2_ f3_; subst f4_; subst f5_))
         refine start_ (n := 8) (S := fun w' => w'.cell? ⟨gb424, 0, none⟩ = some (.int .i64 x425000_2) ∧ w'.cell? ⟨gb424, 1, none⟩ = some (.slice Ao42 x425001_2.length co42) ∧ w'.cell? ⟨gb422, 0, none⟩ = some (.int .i64 a0_0) ∧ w'.cell? ⟨gb422, 1, none⟩ = some (.slice (some ad430) l0_1.length c0_1) ∧ w'.cell? (ad430.add (x7_2).toNat) = some (.int .i64 (rd l0_1 x7_2))) (ds := [7]) #[false, false, false, false, false, false, false, false] (by kernel_rfl) rfl rfl ⟨(blk_cell BK424.out 0).trans rfl, (blk_cell BK424.out 1).trans rfl, (blk_cell BK422.out 0).trans rfl, (blk_cell BK422.out 1).trans rfl, ((HB.out.cell (World.block_lt_of_cell? w _ hw430_0)).trans hw430_0)⟩ (fun hHeld => ?_); refine with_tabW cenotaphref02_Union_t.tab11 cenotaphref02_Union_t.bits11 (fun HT_ HW_ => ?_)
         generalize wr.drew = w41 at HO_425001 BK421 BK422 BK423 BK424 HB hx430_0 hHeld ⊢
         refine p_ 1 40 (mk_ 8 0x2) ?_
         refine p_ 3 42 (mk_ 8 0xa) ?_
         refine t_ 0 39 (mk_ 8 0xb) hHeld ?_
         refine t_ 2 41 (mk_ 8 0xf) hHeld ?_
         refine p_ 4 43 (mk_ 8 0x1f) ?_
         refine t_ 5 44 (mk_ 8 0x3f) hHeld ?_
         refine one_ (i := 6) (N := some 45) #[true, true, true, true, true, true, true, false] rfl rfl (one_of HT_.out (by kernel_rfl)) (by decide) (fun K hK => ?_)
         refine goes_ Try.func51 (by kernel_rfl) rfl #[.agg #[.int .i64 x425000_2, .slice Ao42 x425001_2.length co42], .int .i64 (rd l0_1 x7_2)] (by rfl) rfl rfl (by (try simp only [List.map_toArray, List.map_cons, List.map_nil]); first | done | rfl | (simp only [List.length_drop, List.length_take]; rfl)) ?_
         with_reducible refine (cenotaphref02_Add.calls k2 x425000_2 _ _ x425001_2 (rd l0_1 x7_2) t431 t432 _ ?side1 ?side2 A36.out).mono ?_
         (case side1 => repeat (first | exact (Kd.R_reads' HO_425001.out).2.2 | (with_reducible refine Kd.C_alloc ?_ _) | (with_reducible refine Kd.C_drewN ?_ _) | (with_reducible refine Kd.C_drew ?_)))
         (case side2 => exact (Kd.R_reads' HO_425001.out).2.1)
         rintro e w43 ⟨v433, rfl, ho0, hb⟩
         refine ⟨_, rfl, ?_⟩
         have HO434 := Aside0.mk (Kd.R_lower (Kd.R_new' ho0 (Kd.R_lt zq56x_10)) (below_size zq56x_3))
         replace HO_425001 := Aside0.mk (Kd.R_elder' zq56x_10 (Kd.R_base ho0) hb)
         replace BK421 := Aside0.mk (blk_below (g := gb421) (o := .cells #[.int .i64 a1_0, .slice A1_1 l1_1.length c1_1] 25 (0, 0)) zq56x_8 hb)
         replace BK422 := Aside0.mk (blk_below (g := gb422) (o := .cells #[.int .i64 a0_0, .slice (some ad430) l0_1.length c0_1] 25 (0, 0)) zq56x_9 hb)
         replace BK423 := Aside0.mk (blk_below (g := gb423) (o := .cells #[.int .i64 0, .slice none 0 0] 25 (0, 0)) (by (with_reducible repeat (first | refine blk_drewN ?_ _ | refine blk_drew ?_ | refine blk_alloc ?_ _)); exact BK423.out) hb)
         replace BK424 := Aside0.mk (blk_below (g := gb424) (o := .cells #[.int .i64 x425000_2, .slice Ao42 x425001_2.length co42] 25 (0, 0)) (by (with_reducible repeat (first | refine blk_drewN ?_ _ | refine blk_drew ?_ | refine blk_alloc ?_ _)); exact BK424.out) hb)
         replace HB := Aside0.mk (below_step zq56x_3 hb)
         (try clear hb)
         (try clear hb2)
         (try clear hk)
         (try clear hi)
         (try clear ho0)
         obtain ⟨Ao45, co45, eo45⟩ := Kd.R_slice HO434.out
         (first | subst eo45 | (injection eo45 with f1_ f2_ f3_; have f4_ := f1_.symm; have f5_ := f3_.symm; clear f1_ f2_ f3_; subst f4_; subst f5_))
         refine hK.out _ _ ⟨(blk_cell BK424.out 0).trans rfl, (blk_cell BK424.out 1).trans rfl, (blk_cell BK422.out 0).trans rfl, (blk_cell BK422.out 1).trans rfl, ((HB.out.cell (World.block_lt_of_cell? w _ hw430_0)).trans hw430_0)⟩ (fun hHeld => ?_)
         clear hK K
         refine norm_ (a' := ?_) ?_ ?_
         rotate_left
         ·show Act.put _ (some 45) _ = _
          simp only [Act.put, List.setIfInBounds_toArray, List.set_cons_zero, List.set_cons_succ, i64_w, i32_w]
          rfl
         refine last_ (i := 7) (N := none) #[true, true, true, true, true, true, true, true] rfl rfl (one_of HT_.out (by kernel_rfl)) (by decide) (fun K hK => ?_)
         have hs44 : w43.cell? ⟨gb424, 0, none⟩ = some (.int .i64 x425000_2) := (blk_cell BK424.out 0).trans rfl
         have hfs44 := blk_frozen BK424.out 0
         have hns44_0 := NB421_424.out
         have hns44_1 := NB422_424.out
         have hns44_2 := NB423_424.out
         have hms44_0 := NB424_421.out
         have hms44_1 := NB424_422.out
         have hms44_2 := NB424_423.out
         have hs46 : w43.cell? ⟨gb424, 1, none⟩ = some (.slice Ao42 x425001_2.length co42) := (blk_cell BK424.out 1).trans rfl
         have hfs46 := blk_frozen BK424.out 1
         have hns46_0 := NB421_424.out
         have hns46_1 := NB422_424.out
         have hns46_2 := NB423_424.out
         have hms46_0 := NB424_421.out
         have hms46_1 := NB424_422.out
         have hms46_2 := NB424_423.out
         refine skip_ (w1 := ?_) (by rfl) rfl ?_ ?_
         rotate_left
         ·go_simp
          rfl
         refine hK.out _ _ ?_
         clear hK K
         refine done_ (done_of HT_.out (by kernel_rfl)) ?_
         try go_wp2
         go_roundg k2
         case measure => have := HK1.out; have := HK2.out; omega
         case rel => exact ⟨(wrap64 (x7_2 + 1)), (t431), (t432), (.slice Ao45 t432.length co45), zq56x_12, H', ⟨by have := HK1.out; have := HK2.out; omega⟩, ⟨by (with_reducible repeat (first | apply Kd.R_alloc | apply Kd.R_drewN | apply Kd.R_drew)); exact Kd.R_mono (Kd.R_far (p := ⟨gb424, 1, none⟩) (Kd.R_far (p := ⟨gb424, 0, none⟩) (Kd.R_types HO434.out BK424.out (by decide)) (fun _ hk => hk.2) (.int .i64 t431)) (fun _ hk => hk.2) (.slice Ao45 t432.length co45)) (fun _ hk => trivial)⟩, ⟨by (with_reducible repeat (first | refine blk_drewN ?_ _ | refine blk_drew ?_ | refine blk_alloc ?_ _)); refine blk_far ?_ NB421_424.out _; (with_reducible repeat (first | refine blk_drewN ?_ _ | refine blk_drew ?_ | refine blk_alloc ?_ _)); refine blk_far ?_ NB421_424.out _; (with_reducible repeat (first | refine blk_drewN ?_ _ | refine blk_drew ?_ | refine blk_alloc ?_ _)); exact BK421.out⟩, ⟨by (with_reducible repeat (first | refine blk_drewN ?_ _ | refine blk_drew ?_ | refine blk_alloc ?_ _)); refine blk_far ?_ NB422_424.out _; (with_reducible repeat (first | refine blk_drewN ?_ _ | refine blk_drew ?_ | refine blk_alloc ?_ _)); refine blk_far ?_ NB422_424.out _; (with_reducible repeat (first | refine blk_drewN ?_ _ | refine blk_drew ?_ | refine blk_alloc ?_ _)); exact BK422.out⟩, ⟨by (with_reducible repeat (first | refine blk_drewN ?_ _ | refine blk_drew ?_ | refine blk_alloc ?_ _)); refine blk_far ?_ NB423_424.out _; (with_reducible repeat (first | refine blk_drewN ?_ _ | refine blk_drew ?_ | refine blk_alloc ?_ _)); refine blk_far ?_ NB423_424.out _; (with_reducible repeat (first | refine blk_drewN ?_ _ | refine blk_drew ?_ | refine blk_alloc ?_ _)); exact BK423.out⟩, ⟨by (with_reducible repeat (first | refine blk_drewN ?_ _ | refine blk_drew ?_ | refine blk_alloc ?_ _)); refine blk_put (cs := #[.int .i64 t431, .slice Ao42 x425001_2.length co42]) ?_ 1 _ rfl; (with_reducible repeat (first | refine blk_drewN ?_ _ | refine blk_drew ?_ | refine blk_alloc ?_ _)); refine blk_put (cs := #[.int .i64 x425000_2, .slice Ao42 x425001_2.length co42]) ?_ 0 _ rfl; (with_reducible repeat (first | refine blk_drewN ?_ _ | refine blk_drew ?_ | refine blk_alloc ?_ _)); exact BK424.out⟩, ⟨by repeat (first | (with_reducible first | exact HB.out | apply below_alloc | apply pw_below_drewN | apply below_drew1 | refine below_set ?_ GE421.out | refine below_set ?_ GE422.out | refine below_set ?_ GE423.out | refine below_set ?_ GE424.out) | exact HB.out)⟩⟩
        ·rw [if_neg c35] at H
         exact absurd H (by simp)
       ·rw [if_neg c34] at H
        have c34b0 : decide (x7_2 < (l0_1.length : Int)) = false := decide_eq_false c34
        clear c34
        simp only [Option.some.injEq, Prod.mk.injEq] at H
        obtain ⟨rfl, rfl⟩ := H
        have hnb47 := NB422_421.out
        have hnc47 := NB421_422.out
        have hnb48 := NB422_423.out
        have hnc48 := NB423_422.out
        have hnb49 := NB422_424.out
        have hnc49 := NB424_422.out
        have hcz50_0 : wr.cell? ⟨gb422, 0, none⟩ = some (.int .i64 a0_0) := (blk_cell BK422.out 0).trans rfl
        have hcz50_1 : wr.cell? ⟨gb422, 1, none⟩ = some (.slice A0_1 l0_1.length c0_1) := (blk_cell BK422.out 1).trans rfl
        have hfz50_0 := blk_frozen BK422.out 0
        have hfz50_1 := blk_frozen BK422.out 1
        have hnb51 := NB424_421.out
        have hnc51 := NB421_424.out
        have hnb52 := NB424_423.out
        have hnc52 := NB423_424.out
        have hcz53_0 : wr.cell? ⟨gb424, 0, none⟩ = some (.int .i64 x425000_2) := (blk_cell BK424.out 0).trans rfl
        have hcz53_1 : wr.cell? ⟨gb424, 1, none⟩ = some (u425001) := (blk_cell BK424.out 1).trans rfl
        have hfz53_0 := blk_frozen BK424.out 0
        have hfz53_1 := blk_frozen BK424.out 1
        have hnb54 := NB423_421.out
        have hnc54 := NB421_423.out
        have hcz55_0 : wr.cell? ⟨gb423, 0, none⟩ = some (.int .i64 0) := (blk_cell BK423.out 0).trans rfl
        have hcz55_1 : wr.cell? ⟨gb423, 1, none⟩ = some (.slice none 0 0) := (blk_cell BK423.out 1).trans rfl
        have hfz55_0 := blk_frozen BK423.out 0
        have hfz55_1 := blk_frozen BK423.out 1
        obtain ⟨Ao56, co56, eo56⟩ := Kd.R_slice HO_425001.out
        subst eo56
        go_wp2
        refine bodyPost_ret (results_cell_row rfl _ _ gb423 25 #[.int .i64 x425000_2, .slice Ao56 x425001_2.length co56] (0, 0) _ rfl (by (with_reducible repeat (first | refine blk_drewN ?_ _ | refine blk_drew ?_ | refine blk_alloc ?_ _)); refine blk_put (cs := #[.int .i64 x425000_2, .slice none 0 0]) ?_ 1 _ rfl; (with_reducible repeat (first | refine blk_drewN ?_ _ | refine blk_drew ?_ | refine blk_alloc ?_ _)); refine blk_put (cs := #[.int .i64 0, .slice none 0 0]) ?_ 0 _ rfl; (with_reducible repeat (first | refine blk_drewN ?_ _ | refine blk_drew ?_ | refine blk_alloc ?_ _)); exact BK423.out) Try.underlying25 rfl (by kernel_rfl)) rfl ?_
        exact ⟨_, by first | rfl | (simp [errW_none, errW_some] <;> rfl) | (simp [*, errW_none, errW_some] <;> rfl), by (with_reducible repeat (first | apply Kd.R_alloc | apply Kd.R_drewN | apply Kd.R_drew)); exact Kd.R_mono (Kd.R_far (p := ⟨gb423, 1, none⟩) (Kd.R_far (p := ⟨gb423, 0, none⟩) (Kd.R_types HO_425001.out BK423.out (by decide)) (fun _ hk => hk.2) (.int .i64 x425000_2)) (fun _ hk => hk.2) (.slice Ao56 x425001_2.length co56)) (fun _ hk => trivial), by repeat (first | (with_reducible first | exact HB.out | apply below_alloc | apply pw_below_drewN | apply below_drew1 | refine below_set ?_ GE421.out | refine below_set ?_ GE422.out | refine below_set ?_ GE423.out | refine below_set ?_ GE424.out) | exact HB.out)⟩
 ·rw [if_neg c3] at H
  exact absurd H (by simp)

/-! ### cenotaphref02_Union_f: function 56 -/
theorem zq56xx_0 {p_ : Prop} (h_ : p_ := by repeat (first | (with_reducible first | exact HB.out | apply below_alloc | apply pw_below_drewN | apply below_drew1 | refine below_set ?_ GE435.out | refine below_set ?_ GE436.out | refine below_set ?_ GE437.out | refine below_set ?_ GE438.out) | exact HB.out)) : p_ := h_
theorem zq56xx_1 {p_ : Prop} (h_ : p_ := by rw [hg]; exact Nat.ne_of_lt (blk_lt (g := gb435) (o := .cells #[.int .i64 a0_0, .slice A0_1 l0_1.length c0_1] 25 (0, 0)) (by (with_reducible repeat (first | refine blk_drewN ?_ _ | refine blk_drew ?_ | refine blk_alloc ?_ _)); exact BK435.out))) : p_ := h_
theorem zq56xx_2 {p_ : Prop} (h_ : p_ := by rw [hg]; exact Nat.ne_of_gt (blk_lt (g := gb435) (o := .cells #[.int .i64 a0_0, .slice A0_1 l0_1.length c0_1] 25 (0, 0)) (by (with_reducible repeat (first | refine blk_drewN ?_ _ | refine blk_drew ?_ | refine blk_alloc ?_ _)); exact BK435.out))) : p_ := h_
theorem zq56xx_3 {p_ : Prop} (h_ : p_ := by repeat (first | (with_reducible first | exact HB.out | apply below_alloc | apply pw_below_drewN | apply below_drew1 | refine below_set ?_ GE435.out | refine below_set ?_ GE436.out | refine below_set ?_ GE437.out) | exact HB.out)) : p_ := h_
theorem zq56xx_4 {p_ : Prop} (h_ : p_ := by repeat (first | (with_reducible first | exact HB.out | apply below_alloc | apply pw_below_drewN | apply below_drew1 | refine below_set ?_ GE435.out | refine below_set ?_ GE436.out) | exact HB.out)) : p_ := h_
theorem zq56xx_5 {p_ : Prop} (h_ : p_ := by repeat (first | (with_reducible first | exact HB.out | apply below_alloc | apply pw_below_drewN | apply below_drew1 | refine below_set ?_ GE435.out) | exact HB.out)) : p_ := h_
theorem zq56xx_6 {p_ : Prop} (h_ : p_ := by repeat (first | (with_reducible first | exact HB.out | apply below_alloc | apply pw_below_drewN | apply below_drew1) | exact HB.out)) : p_ := h_
theorem zq56xx_7 {p_ : Prop} (h_ : p_ := by (with_reducible repeat (first | refine blk_drewN ?_ _ | refine blk_drew ?_ | refine blk_alloc ?_ _)); exact BK435.out) : p_ := h_
theorem zq56xx_8 {p_ : Prop} (h_ : p_ := by (with_reducible repeat (first | refine blk_drewN ?_ _ | refine blk_drew ?_ | refine blk_alloc ?_ _)); exact BK436.out) : p_ := h_
theorem zq56xx_9 {p_ : Prop} (h_ : p_ := by (with_reducible repeat (first | refine blk_drewN ?_ _ | refine blk_drew ?_ | refine blk_alloc ?_ _)); exact BK437.out) : p_ := h_
theorem zq56xx_10 {p_ : Prop} (h_ : p_ := by (with_reducible repeat (first | apply Kd.R_alloc | apply Kd.R_drewN | apply Kd.R_drew)); exact HO_439001.out) : p_ := h_
theorem zq56xx_11 {p_ : Prop} (h_ : p_ := by first | (with_reducible assumption) | assumption) : p_ := h_
theorem zq56xx_12 {p_ : Prop} (h_ : p_ := by first | rfl | (simp; done) | (simp [*]; done)) : p_ := h_
mutual
def cenotaphref02_Union_f.l0 : Nat → Int → Int → List Int → Int → List Int → Int → List Int → Option (Int × List Int)
 | 0, _, _, _, _, _, _, _ => none
 | k + 1, x6, x436000, x436001, x437000, x437001, x439000, x439001 => if x6 < (x436001.length : Int) then (if 0 ≤ x6 then ((cenotaphref02_Add.f k x439000 x439001 (rd x436001 x6)).bind fun bt440 => (cenotaphref02_Union_f.l0 k (wrap64 (x6 + 1)) x436000 x436001 x437000 x437001 bt440.1 bt440.2)) else (none)) else (cenotaphref02_Union_f.l1 k 0 x437000 x437001 x439000 x439001)
def cenotaphref02_Union_f.l1 : Nat → Int → Int → List Int → Int → List Int → Option (Int × List Int)
 | 0, _, _, _, _, _ => none
 | k + 1, x7, x437000, x437001, x439000, x439001 => if x7 < (x437001.length : Int) then (if 0 ≤ x7 then ((cenotaphref02_Add.f k x439000 x439001 (rd x437001 x7)).bind fun bt445 => (cenotaphref02_Union_f.l1 k (wrap64 (x7 + 1)) x437000 x437001 bt445.1 bt445.2)) else (none)) else (some (x439000, x439001))
end
def cenotaphref02_Union_f.f (k : Nat) (a0_0 : Int) (l0_1 : List Int) (a1_0 : Int) (l1_1 : List Int) : Option (Int × List Int) := if a1_0 > a0_0 then (none) else (cenotaphref02_Union_f.l0 k 0 a0_0 l0_1 a1_0 l1_1 a0_0 ([] : List Int))
theorem cenotaphref02_Union_f.mono_l : ∀ k, (∀ y0 y1 y2 y3 y4 y5 y6, LeO (cenotaphref02_Union_f.l0 k y0 y1 y2 y3 y4 y5 y6) (cenotaphref02_Union_f.l0 (k + 1) y0 y1 y2 y3 y4 y5 y6)) ∧ (∀ y0 y1 y2 y3 y4, LeO (cenotaphref02_Union_f.l1 k y0 y1 y2 y3 y4) (cenotaphref02_Union_f.l1 (k + 1) y0 y1 y2 y3 y4))
 | 0 => ⟨fun _ _ _ _ _ _ _ r h => by simp [cenotaphref02_Union_f.l0] at h, fun _ _ _ _ _ r h => by simp [cenotaphref02_Union_f.l1] at h⟩
 | k + 1 => by
  obtain ⟨ih0, ih1⟩ := cenotaphref02_Union_f.mono_l k
  refine ⟨?_, ?_⟩
  ·intro y0 y1 y2 y3 y4 y5 y6
   unfold cenotaphref02_Union_f.l0
   repeat' first
   | (with_reducible exact ih0 _ _ _ _ _ _ _)
   | (with_reducible exact ih1 _ _ _ _ _)
   | (with_reducible exact cenotaphref02_Add.mono _ _ _ _)
   | (with_reducible exact LeO.refl _)
   | (with_reducible exact LeO.none _)
   | (with_reducible refine LeO.ite ?_ ?_)
   | (with_reducible refine LeO.bind ?_ (fun _ => ?_))
   | exact ih0 _ _ _ _ _ _ _
   | exact ih1 _ _ _ _ _
   | exact cenotaphref02_Add.mono _ _ _ _
   | exact LeO.none _
   | refine LeO.ite ?_ ?_
   | refine LeO.bind ?_ (fun _ => ?_)
  ·intro y0 y1 y2 y3 y4
   unfold cenotaphref02_Union_f.l1
   repeat' first
   | (with_reducible exact ih0 _ _ _ _ _ _ _)
   | (with_reducible exact ih1 _ _ _ _ _)
   | (with_reducible exact cenotaphref02_Add.mono _ _ _ _)
   | (with_reducible exact LeO.refl _)
   | (with_reducible exact LeO.none _)
   | (with_reducible refine LeO.ite ?_ ?_)
   | (with_reducible refine LeO.bind ?_ (fun _ => ?_))
   | exact ih0 _ _ _ _ _ _ _
   | exact ih1 _ _ _ _ _
   | exact cenotaphref02_Add.mono _ _ _ _
   | exact LeO.none _
   | refine LeO.ite ?_ ?_
   | refine LeO.bind ?_ (fun _ => ?_)
theorem cenotaphref02_Union_f.mono : ∀ a0 a1 a2 a3 k, LeO (cenotaphref02_Union_f.f k a0 a1 a2 a3) (cenotaphref02_Union_f.f (k + 1) a0 a1 a2 a3) := by
 intro a0 a1 a2 a3 k
 obtain ⟨ih0, ih1⟩ := cenotaphref02_Union_f.mono_l k
 unfold cenotaphref02_Union_f.f
 repeat' first
   | (with_reducible exact ih0 _ _ _ _ _ _ _)
   | (with_reducible exact ih1 _ _ _ _ _)
   | (with_reducible exact cenotaphref02_Add.mono _ _ _ _)
   | (with_reducible exact LeO.refl _)
   | (with_reducible exact LeO.none _)
   | (with_reducible refine LeO.ite ?_ ?_)
   | (with_reducible refine LeO.bind ?_ (fun _ => ?_))
   | exact ih0 _ _ _ _ _ _ _
   | exact ih1 _ _ _ _ _
   | exact cenotaphref02_Add.mono _ _ _ _
   | exact LeO.none _
   | refine LeO.ite ?_ ?_
   | refine LeO.bind ?_ (fun _ => ?_)
def cenotaphref02_Union_f.T7 : Bool × List (List Nat × List Nat) := (true, [([], []), ([], []), ([1], [1]), ([], []), ([2, 3], [2, 3]), ([4], [4]), ([0, 5], [0, 5]), ([6, 6, 0, 1, 2, 3, 4, 5, 6], [6])])
def cenotaphref02_Union_f.B7 : List Nat := [0, 0, 2, 0, 14, 30, 63, 127]
theorem cenotaphref02_Union_f.tab7 : rtab .any (opsOf Try.f56 7) = cenotaphref02_Union_f.T7 := by kernel_rfl
theorem cenotaphref02_Union_f.bits7 : waitsOk cenotaphref02_Union_f.T7.2 cenotaphref02_Union_f.B7 = true := by kernel_rfl
def cenotaphref02_Union_f.T11 : Bool × List (List Nat × List Nat) := (true, [([], []), ([], []), ([1], [1]), ([], []), ([2, 3], [2, 3]), ([4], [4]), ([0, 5], [0, 5]), ([6, 6, 0, 1, 2, 3, 4, 5, 6], [6])])
def cenotaphref02_Union_f.B11 : List Nat := [0, 0, 2, 0, 14, 30, 63, 127]
theorem cenotaphref02_Union_f.tab11 : rtab .any (opsOf Try.f56 11) = cenotaphref02_Union_f.T11 := by kernel_rfl
theorem cenotaphref02_Union_f.bits11 : waitsOk cenotaphref02_Union_f.T11.2 cenotaphref02_Union_f.B11 = true := by kernel_rfl
set_option maxHeartbeats 8000000 in
set_option maxRecDepth 100000 in
theorem cenotaphref02_Union_f.calls (k : Nat) (a0_0 : Int) (A0_1 : Option Addr) (c0_1 : Nat) (l0_1 : List Int) (a1_0 : Int) (A1_1 : Option Addr) (c1_1 : Nat) (l1_1 : List Int) (r1 : Int) (r2 : List Int) (w : World) (hr0_1 : Kd.C (Kd.int .i64) w A0_1 l0_1.length l0_1) (hc0_1 : l0_1.length ≤ c0_1) (hr1_1 : Kd.C (Kd.int .i64) w A1_1 l1_1.length l1_1) (hc1_1 : l1_1.length ≤ c1_1) (h : cenotaphref02_Union_f.f k a0_0 l0_1 a1_0 l1_1 = some (r1, r2)) :
  Calls Try.prog 56 #[.agg #[.int .i64 a0_0, .slice A0_1 l0_1.length c0_1], .agg #[.int .i64 a1_0, .slice A1_1 l1_1.length c1_1]] w fun e w' => ∃ v1_ : Value, e = .returned (.agg #[.int .i64 r1, v1_]) ∧ Kd.R (Kd.int .i64) 3 w' w.heap.size (fun _ => True) v1_ r2 ∧ Below w.heap.size w w' := by
 have hu25 := Try.underlying25
 have HR0_1 := Aside0.mk hr0_1
 have HC0_1 := Aside0.mk hc0_1
 clear hr0_1 hc0_1
 have HR1_1 := Aside0.mk hr1_1
 have HC1_1 := Aside0.mk hc1_1
 clear hr1_1 hc1_1
 have HB := Aside0.mk (Below.refl w.heap.size w)
 have H : (if a1_0 > a0_0 then (none) else (cenotaphref02_Union_f.l0 k 0 a0_0 l0_1 a1_0 l1_1 a0_0 ([] : List Int))) = some (r1, r2) := h
 clear h
 by_cases c3 : a1_0 > a0_0
 ·rw [if_pos c3] at H
  exact absurd H (by simp)
 ·rw [if_neg c3] at H
  have c3b0 : decide (a0_0 < a1_0) = false := decide_eq_false c3
  clear c3
  have H' := Aside0.mk H
  clear H
  go_enter Try.func56, Try.ntmps56
  go_wp2_with (first | ((with_reducible refine gate_dst (N := 2) rfl ?_); refine box_event ?hg (N := 2) ?hd (cs := #[.int .i64 a0_0, .slice A0_1 l0_1.length c0_1]) (t := 25) ?hr ?_; (case hd => rfl); (case hg => rfl); (case hr => first | (go_simp; done) | (go_simp; rfl)); intro gb435 hg w4 hbox hb; have BK435 := Aside0.mk (hbox); have GW435 := Aside0.mk (((by rw [hg]; exact (below_size zq56xx_6)) : w.heap.size ≤ gb435)); have GE435 := Aside0.mk (((by rw [hg]; exact (below_size zq56xx_6)) : w.heap.size ≤ gb435)); replace HB := Aside0.mk (below_step zq56xx_6 hb); clear hb hbox hg) | ((with_reducible refine gate_dst (N := 3) rfl ?_); refine box_event ?hg (N := 3) ?hd (cs := #[.int .i64 a1_0, .slice A1_1 l1_1.length c1_1]) (t := 25) ?hr ?_; (case hd => rfl); (case hg => rfl); (case hr => first | (go_simp; done) | (go_simp; rfl)); intro gb436 hg w5 hbox hb; have BK436 := Aside0.mk (hbox); have GW436 := Aside0.mk (((by rw [hg]; exact (below_size zq56xx_5)) : w.heap.size ≤ gb436)); have GE436 := Aside0.mk (((by rw [hg]; exact (below_size zq56xx_5)) : w.heap.size ≤ gb436)); replace HB := Aside0.mk (below_step zq56xx_5 hb); have NB435_436 := Aside0.mk ((zq56xx_1 : gb435 ≠ gb436)); have NB436_435 := Aside0.mk ((zq56xx_2 : gb436 ≠ gb435)); replace BK435 := Aside0.mk (blk_below (g := gb435) (o := .cells #[.int .i64 a0_0, .slice A0_1 l0_1.length c0_1] 25 (0, 0)) zq56xx_7 hb); clear hb hbox hg) | ((with_reducible refine gate_dst (N := 4) rfl ?_); refine box_event ?hg (N := 4) ?hd (cs := #[.int .i64 0, .slice none 0 0]) (t := 25) ?hr ?_; (case hd => rfl); (case hg => rfl); (case hr => first | (go_simp; done) | (go_simp; rfl)); intro gb437 hg w6 hbox hb; have BK437 := Aside0.mk (hbox); have GW437 := Aside0.mk (((by rw [hg]; exact (below_size zq56xx_4)) : w.heap.size ≤ gb437)); have GE437 := Aside0.mk (((by rw [hg]; exact (below_size zq56xx_4)) : w.heap.size ≤ gb437)); replace HB := Aside0.mk (below_step zq56xx_4 hb); have NB435_437 := Aside0.mk ((zq56xx_1 : gb435 ≠ gb437)); have NB437_435 := Aside0.mk ((zq56xx_2 : gb437 ≠ gb435)); replace BK435 := Aside0.mk (blk_below (g := gb435) (o := .cells #[.int .i64 a0_0, .slice A0_1 l0_1.length c0_1] 25 (0, 0)) zq56xx_7 hb); have NB436_437 := Aside0.mk (((by rw [hg]; exact Nat.ne_of_lt (blk_lt (g := gb436) (o := .cells #[.int .i64 a1_0, .slice A1_1 l1_1.length c1_1] 25 (0, 0)) zq56xx_8)) : gb436 ≠ gb437)); have NB437_436 := Aside0.mk (((by rw [hg]; exact Nat.ne_of_gt (blk_lt (g := gb436) (o := .cells #[.int .i64 a1_0, .slice A1_1 l1_1.length c1_1] 25 (0, 0)) zq56xx_8)) : gb437 ≠ gb436)); replace BK436 := Aside0.mk (blk_below (g := gb436) (o := .cells #[.int .i64 a1_0, .slice A1_1 l1_1.length c1_1] 25 (0, 0)) zq56xx_8 hb); clear hb hbox hg; have hnb7 := NB436_435.out; have hnc7 := NB435_436.out; have hnb8 := NB436_437.out; have hnc8 := NB437_436.out; have hcz9_0 : w6.cell? ⟨gb436, 0, none⟩ = some (.int .i64 a1_0) := (blk_cell BK436.out 0).trans rfl; have hcz9_1 : w6.cell? ⟨gb436, 1, none⟩ = some (.slice A1_1 l1_1.length c1_1) := (blk_cell BK436.out 1).trans rfl; have hfz9_0 := blk_frozen BK436.out 0; have hfz9_1 := blk_frozen BK436.out 1; have hnb10 := NB435_437.out; have hnc10 := NB437_435.out; have hcz11_0 : w6.cell? ⟨gb435, 0, none⟩ = some (.int .i64 a0_0) := (blk_cell BK435.out 0).trans rfl; have hcz11_1 : w6.cell? ⟨gb435, 1, none⟩ = some (.slice A0_1 l0_1.length c0_1) := (blk_cell BK435.out 1).trans rfl; have hfz11_0 := blk_frozen BK435.out 0; have hfz11_1 := blk_frozen BK435.out 1) | ((with_reducible refine gate_dst (N := 5) rfl ?_); refine box_event ?hg (N := 5) ?hd (cs := #[.int .i64 0, .slice none 0 0]) (t := 25) ?hr ?_; (case hd => rfl); (case hg => rfl); (case hr => first | (go_simp; done) | (go_simp; rfl)); intro gb438 hg w12 hbox hb; have BK438 := Aside0.mk (hbox); have GW438 := Aside0.mk (((by rw [hg]; exact (below_size zq56xx_3)) : w.heap.size ≤ gb438)); have GE438 := Aside0.mk (((by rw [hg]; exact (below_size zq56xx_3)) : w.heap.size ≤ gb438)); replace HB := Aside0.mk (below_step zq56xx_3 hb); have NB435_438 := Aside0.mk ((zq56xx_1 : gb435 ≠ gb438)); have NB438_435 := Aside0.mk ((zq56xx_2 : gb438 ≠ gb435)); replace BK435 := Aside0.mk (blk_below (g := gb435) (o := .cells #[.int .i64 a0_0, .slice A0_1 l0_1.length c0_1] 25 (0, 0)) zq56xx_7 hb); have NB436_438 := Aside0.mk (((by rw [hg]; exact Nat.ne_of_lt (blk_lt (g := gb436) (o := .cells #[.int .i64 a1_0, .slice A1_1 l1_1.length c1_1] 25 (0, 0)) zq56xx_8)) : gb436 ≠ gb438)); have NB438_436 := Aside0.mk (((by rw [hg]; exact Nat.ne_of_gt (blk_lt (g := gb436) (o := .cells #[.int .i64 a1_0, .slice A1_1 l1_1.length c1_1] 25 (0, 0)) zq56xx_8)) : gb438 ≠ gb436)); replace BK436 := Aside0.mk (blk_below (g := gb436) (o := .cells #[.int .i64 a1_0, .slice A1_1 l1_1.length c1_1] 25 (0, 0)) zq56xx_8 hb); have NB437_438 := Aside0.mk (((by rw [hg]; exact Nat.ne_of_lt (blk_lt (g := gb437) (o := .cells #[.int .i64 0, .slice none 0 0] 25 (0, 0)) zq56xx_9)) : gb437 ≠ gb438)); have NB438_437 := Aside0.mk (((by rw [hg]; exact Nat.ne_of_gt (blk_lt (g := gb437) (o := .cells #[.int .i64 0, .slice none 0 0] 25 (0, 0)) zq56xx_9)) : gb438 ≠ gb437)); replace BK437 := Aside0.mk (blk_below (g := gb437) (o := .cells #[.int .i64 0, .slice none 0 0] 25 (0, 0)) zq56xx_9 hb); clear hb hbox hg; have hnb13 := NB438_435.out; have hnc13 := NB435_438.out; have hnb14 := NB438_436.out; have hnc14 := NB436_438.out; have hnb15 := NB438_437.out; have hnc15 := NB437_438.out; have hcz16_0 : w12.cell? ⟨gb438, 0, none⟩ = some (.int .i64 0) := (blk_cell BK438.out 0).trans rfl; have hcz16_1 : w12.cell? ⟨gb438, 1, none⟩ = some (.slice none 0 0) := (blk_cell BK438.out 1).trans rfl; have hfz16_0 := blk_frozen BK438.out 0; have hfz16_1 := blk_frozen BK438.out 1))
  go_loopg [6] k (fun kq v6 w' => ∃ (x6_1 : Int) (x439000_1 : Int) (x439001_1 : List Int) (u439001 : Value), v6 = .int .i64 x6_1 ∧ Aside0 (cenotaphref02_Union_f.l0 kq x6_1 a0_0 l0_1 a1_0 l1_1 x439000_1 x439001_1 = some (r1, r2)) ∧ Aside0 (kq ≤ k) ∧ Aside0 (Kd.R (Kd.int .i64) 3 w' w.heap.size (fun _ => True) u439001 x439001_1) ∧ Aside0 (w'.heap[gb435]? = some (.cells #[.int .i64 a0_0, (.slice A0_1 l0_1.length c0_1)] 25 (0, 0))) ∧ Aside0 (w'.heap[gb436]? = some (.cells #[.int .i64 a1_0, (.slice A1_1 l1_1.length c1_1)] 25 (0, 0))) ∧ Aside0 (w'.heap[gb437]? = some (.cells #[.int .i64 0, (.slice none 0 0)] 25 (0, 0))) ∧ Aside0 (w'.heap[gb438]? = some (.cells #[.int .i64 x439000_1, u439001] 25 (0, 0))) ∧ Aside0 (Below w.heap.size w w'))
  case atStart => exact ⟨(0), (a0_0), (([] : List Int)), (.slice none 0 0), zq56xx_12, H', ⟨Nat.le_refl _⟩, ⟨by first | exact Kd.R_nil _ _ _ _ _ | exact Kd.N_nil _ _ _ _ _ | exact Kd.V_nil _ _ _ _ _ | exact Kd.Q_nil _ _ _ _ _ | exact Kd.S_nil _ _ _ _ _⟩, ⟨by (with_reducible repeat (first | refine blk_drewN ?_ _ | refine blk_drew ?_ | refine blk_alloc ?_ _)); refine blk_far ?_ NB435_438.out _; (with_reducible repeat (first | refine blk_drewN ?_ _ | refine blk_drew ?_ | refine blk_alloc ?_ _)); refine blk_far ?_ NB435_438.out _; (with_reducible repeat (first | refine blk_drewN ?_ _ | refine blk_drew ?_ | refine blk_alloc ?_ _)); exact BK435.out⟩, ⟨by (with_reducible repeat (first | refine blk_drewN ?_ _ | refine blk_drew ?_ | refine blk_alloc ?_ _)); refine blk_far ?_ NB436_438.out _; (with_reducible repeat (first | refine blk_drewN ?_ _ | refine blk_drew ?_ | refine blk_alloc ?_ _)); refine blk_far ?_ NB436_438.out _; (with_reducible repeat (first | refine blk_drewN ?_ _ | refine blk_drew ?_ | refine blk_alloc ?_ _)); exact BK436.out⟩, ⟨by (with_reducible repeat (first | refine blk_drewN ?_ _ | refine blk_drew ?_ | refine blk_alloc ?_ _)); refine blk_far ?_ NB437_438.out _; (with_reducible repeat (first | refine blk_drewN ?_ _ | refine blk_drew ?_ | refine blk_alloc ?_ _)); refine blk_far ?_ NB437_438.out _; (with_reducible repeat (first | refine blk_drewN ?_ _ | refine blk_drew ?_ | refine blk_alloc ?_ _)); exact BK437.out⟩, ⟨by (with_reducible repeat (first | refine blk_drewN ?_ _ | refine blk_drew ?_ | refine blk_alloc ?_ _)); refine blk_put (cs := #[.int .i64 a0_0, .slice none 0 0]) ?_ 1 _ rfl; (with_reducible repeat (first | refine blk_drewN ?_ _ | refine blk_drew ?_ | refine blk_alloc ?_ _)); refine blk_put (cs := #[.int .i64 0, .slice none 0 0]) ?_ 0 _ rfl; (with_reducible repeat (first | refine blk_drewN ?_ _ | refine blk_drew ?_ | refine blk_alloc ?_ _)); exact BK438.out⟩, ⟨by repeat (first | (with_reducible first | exact HB.out | apply below_alloc | apply pw_below_drewN | apply below_drew1 | refine below_set ?_ GE435.out | refine below_set ?_ GE436.out | refine below_set ?_ GE437.out | refine below_set ?_ GE438.out) | exact HB.out)⟩⟩
  case round =>
   clear H'
   try clear c1
   try clear p2
   try clear c3
   try clear c3b0
   try clear c5
   try clear c7
   try clear c8
   try clear c10
   try clear c13
   try clear c14
   try clear c15
   try clear hcz11_0
   try clear hcz11_1
   try clear hcz16_0
   try clear hcz16_1
   try clear hcz9_0
   try clear hcz9_1
   try clear hfz11_0
   try clear hfz11_1
   try clear hfz16_0
   try clear hfz16_1
   try clear hfz9_0
   try clear hfz9_1
   obtain ⟨x6_1, x439000_1, x439001_1, u439001, rfl, HA, HK1, HO_439001, BK435, BK436, BK437, BK438, HB⟩ := hrel
   cases gk with
   | zero => exact absurd HA.out (by simp [cenotaphref02_Union_f.l0])
   | succ k1 =>
    have H := HA.out
    clear HA
    simp only [cenotaphref02_Union_f.l0] at H
    by_cases c17 : x6_1 < (l0_1.length : Int)
    ·rw [if_pos c17] at H
     have c17b0 : decide (x6_1 < (l0_1.length : Int)) = true := decide_eq_true c17
     clear c17
     by_cases c18 : 0 ≤ x6_1
     ·rw [if_pos c18] at H
      have c18b0 : decide (0 ≤ x6_1) = true := decide_eq_true c18
      clear c18
      replace H := Option.bind_eq_some_iff.mp H
      obtain ⟨⟨t440, t441⟩, A190, H⟩ := H
      replace H : (cenotaphref02_Union_f.l0 k1 (wrap64 (x6_1 + 1)) a0_0 l0_1 a1_0 l1_1 t440 t441) = some (r1, r2) := H
      have A19 := Aside0.mk A190
      clear A190
      have H' := Aside0.mk H
      clear H
      have hnb20 := NB435_436.out
      have hnc20 := NB436_435.out
      have hnb21 := NB435_437.out
      have hnc21 := NB437_435.out
      have hnb22 := NB435_438.out
      have hnc22 := NB438_435.out
      have hcz23_0 : wr.cell? ⟨gb435, 0, none⟩ = some (.int .i64 a0_0) := (blk_cell BK435.out 0).trans rfl
      have hcz23_1 : wr.cell? ⟨gb435, 1, none⟩ = some (.slice A0_1 l0_1.length c0_1) := (blk_cell BK435.out 1).trans rfl
      have hfz23_0 := blk_frozen BK435.out 0
      have hfz23_1 := blk_frozen BK435.out 1
      try go_wp2
      replace HO_439001 := Aside0.mk (Kd.R_drew HO_439001.out)
      replace BK435 := Aside0.mk (blk_drew BK435.out)
      replace BK436 := Aside0.mk (blk_drew BK436.out)
      replace BK437 := Aside0.mk (blk_drew BK437.out)
      replace BK438 := Aside0.mk (blk_drew BK438.out)
      replace HB := Aside0.mk (below_drew1 HB.out)
      have p439 : 0 ≤ (x6_1 : Int) := of_decide_eq_true zq56xx_11
      have q439 : x6_1 < (l0_1.length : Int) := of_decide_eq_true zq56xx_11
      obtain ⟨ad439, e439, hx439_0⟩ := Kd.at_int HR0_1.out x6_1 p439 q439
      have hw439_0 := hx439_0
      cases e439
      replace hx439_0 := (HB.out.cell (World.block_lt_of_cell? w _ hx439_0)).trans hx439_0
      replace p439 := eq_true p439
      replace q439 := eq_true q439
      obtain ⟨Ao25, co25, eo25⟩ := Kd.R_slice HO_439001.out
      (first | subst eo25 | (injection eo25 with f1_ f2_ f3_; have f4_ := f1_.symm; have f5_ := f3_.symm; clear f1_ f2_ f3_; subst f4_; subst f5_))
      refine start_ (n := 8) (S := fun w' => w'.cell? ⟨gb438, 0, none⟩ = some (.int .i64 x439000_1) ∧ w'.cell? ⟨gb438, 1, none⟩ = some (.slice Ao25 x439001_1.length co25) ∧ w'.cell? ⟨gb435, 0, none⟩ = some (.int .i64 a0_0) ∧ w'.cell? ⟨gb435, 1, none⟩ = some (.slice (some ad439) l0_1.length c0_1) ∧ w'.cell? (ad439.add (x6_1).toNat) = some (.int .i64 (rd l0_1 x6_1))) (ds := [7]) #[false, false, false, false, false, false, false, false] (by kernel_rfl) rfl rfl ⟨(blk_cell BK438.out 0).trans rfl, (blk_cell BK438.out 1).trans rfl, (blk_cell BK435.out 0).trans rfl, (blk_cell BK435.out 1).trans rfl, ((HB.out.cell (World.block_lt_of_cell? w _ hw439_0)).trans hw439_0)⟩ (fun hHeld => ?_); refine with_tabW cenotaphref02_Union_f.tab7 cenotaphref02_Union_f.bits7 (fun HT_ HW_ => ?_)
      generalize wr.drew = w24 at HO_439001 BK435 BK436 BK437 BK438 HB hx439_0 hHeld ⊢
      refine p_ 1 26 (mk_ 8 0x2) ?_
      refine p_ 3 28 (mk_ 8 0xa) ?_
      refine t_ 0 25 (mk_ 8 0xb) hHeld ?_
      refine t_ 2 27 (mk_ 8 0xf) hHeld ?_
      refine p_ 4 29 (mk_ 8 0x1f) ?_
      refine t_ 5 30 (mk_ 8 0x3f) hHeld ?_
      refine one_ (i := 6) (N := some 31) #[true, true, true, true, true, true, true, false] rfl rfl (one_of HT_.out (by kernel_rfl)) (by decide) (fun K hK => ?_)
      refine goes_ Try.func51 (by kernel_rfl) rfl #[.agg #[.int .i64 x439000_1, .slice Ao25 x439001_1.length co25], .int .i64 (rd l0_1 x6_1)] (by rfl) rfl rfl (by (try simp only [List.map_toArray, List.map_cons, List.map_nil]); first | done | rfl | (simp only [List.length_drop, List.length_take]; rfl)) ?_
      with_reducible refine (cenotaphref02_Add.calls k1 x439000_1 _ _ x439001_1 (rd l0_1 x6_1) t440 t441 _ ?side1 ?side2 A19.out).mono ?_
      (case side1 => repeat (first | exact (Kd.R_reads' HO_439001.out).2.2 | (with_reducible refine Kd.C_alloc ?_ _) | (with_reducible refine Kd.C_drewN ?_ _) | (with_reducible refine Kd.C_drew ?_)))
      (case side2 => exact (Kd.R_reads' HO_439001.out).2.1)
      rintro e w26 ⟨v442, rfl, ho0, hb⟩
      refine ⟨_, rfl, ?_⟩
      have HO443 := Aside0.mk (Kd.R_lower (Kd.R_new' ho0 (Kd.R_lt zq56xx_10)) (below_size zq56xx_0))
      replace HO_439001 := Aside0.mk (Kd.R_elder' zq56xx_10 (Kd.R_base ho0) hb)
      replace BK435 := Aside0.mk (blk_below (g := gb435) (o := .cells #[.int .i64 a0_0, .slice (some ad439) l0_1.length c0_1] 25 (0, 0)) zq56xx_7 hb)
      replace BK436 := Aside0.mk (blk_below (g := gb436) (o := .cells #[.int .i64 a1_0, .slice A1_1 l1_1.length c1_1] 25 (0, 0)) zq56xx_8 hb)
      replace BK437 := Aside0.mk (blk_below (g := gb437) (o := .cells #[.int .i64 0, .slice none 0 0] 25 (0, 0)) zq56xx_9 hb)
      replace BK438 := Aside0.mk (blk_below (g := gb438) (o := .cells #[.int .i64 x439000_1, .slice Ao25 x439001_1.length co25] 25 (0, 0)) (by (with_reducible repeat (first | refine blk_drewN ?_ _ | refine blk_drew ?_ | refine blk_alloc ?_ _)); exact BK438.out) hb)
      replace HB := Aside0.mk (below_step zq56xx_0 hb)
      (try clear hb)
      (try clear hb2)
      (try clear hk)
      (try clear hi)
      (try clear ho0)
      obtain ⟨Ao28, co28, eo28⟩ := Kd.R_slice HO443.out
      (first | subst eo28 | (injection eo28 with f1_ f2_ f3_; have f4_ := f1_.symm; have f5_ := f3_.symm; clear f1_ f2_ f3_; subst f4_; subst f5_))
      refine hK.out _ _ ⟨(blk_cell BK438.out 0).trans rfl, (blk_cell BK438.out 1).trans rfl, (blk_cell BK435.out 0).trans rfl, (blk_cell BK435.out 1).trans rfl, ((HB.out.cell (World.block_lt_of_cell? w _ hw439_0)).trans hw439_0)⟩ (fun hHeld => ?_)
      clear hK K
      refine norm_ (a' := ?_) ?_ ?_
      rotate_left
      ·show Act.put _ (some 31) _ = _
       simp only [Act.put, List.setIfInBounds_toArray, List.set_cons_zero, List.set_cons_succ, i64_w, i32_w]
       rfl
      refine last_ (i := 7) (N := none) #[true, true, true, true, true, true, true, true] rfl rfl (one_of HT_.out (by kernel_rfl)) (by decide) (fun K hK => ?_)
      have hs27 : w26.cell? ⟨gb438, 0, none⟩ = some (.int .i64 x439000_1) := (blk_cell BK438.out 0).trans rfl
      have hfs27 := blk_frozen BK438.out 0
      have hns27_0 := NB435_438.out
      have hns27_1 := NB436_438.out
      have hns27_2 := NB437_438.out
      have hms27_0 := NB438_435.out
      have hms27_1 := NB438_436.out
      have hms27_2 := NB438_437.out
      have hs29 : w26.cell? ⟨gb438, 1, none⟩ = some (.slice Ao25 x439001_1.length co25) := (blk_cell BK438.out 1).trans rfl
      have hfs29 := blk_frozen BK438.out 1
      have hns29_0 := NB435_438.out
      have hns29_1 := NB436_438.out
      have hns29_2 := NB437_438.out
      have hms29_0 := NB438_435.out
      have hms29_1 := NB438_436.out
      have hms29_2 := NB438_437.out
      refine skip_ (w1 := ?_) (by rfl) rfl ?_ ?_
      rotate_left
      ·go_simp
       rfl
      refine hK.out _ _ ?_
      clear hK K
      refine done_ (done_of HT_.out (by kernel_rfl)) ?_
      try go_wp2
      go_roundg k1
      case measure => have := HK1.out; omega
      case rel => exact ⟨(wrap64 (x6_1 + 1)), (t440), (t441), (.slice Ao28 t441.length co28), zq56xx_12, H', ⟨by have := HK1.out; omega⟩, ⟨by (with_reducible repeat (first | apply Kd.R_alloc | apply Kd.R_drewN | apply Kd.R_drew)); exact Kd.R_mono (Kd.R_far (p := ⟨gb438, 1, none⟩) (Kd.R_far (p := ⟨gb438, 0, none⟩) (Kd.R_types HO443.out BK438.out (by decide)) (fun _ hk => hk.2) (.int .i64 t440)) (fun _ hk => hk.2) (.slice Ao28 t441.length co28)) (fun _ hk => trivial)⟩, ⟨by (with_reducible repeat (first | refine blk_drewN ?_ _ | refine blk_drew ?_ | refine blk_alloc ?_ _)); refine blk_far ?_ NB435_438.out _; (with_reducible repeat (first | refine blk_drewN ?_ _ | refine blk_drew ?_ | refine blk_alloc ?_ _)); refine blk_far ?_ NB435_438.out _; (with_reducible repeat (first | refine blk_drewN ?_ _ | refine blk_drew ?_ | refine blk_alloc ?_ _)); exact BK435.out⟩, ⟨by (with_reducible repeat (first | refine blk_drewN ?_ _ | refine blk_drew ?_ | refine blk_alloc ?_ _)); refine blk_far ?_ NB436_438.out _; (with_reducible repeat (first | refine blk_drewN ?_ _ | refine blk_drew ?_ | refine blk_alloc ?_ _)); refine blk_far ?_ NB436_438.out _; (with_reducible repeat (first | refine blk_drewN ?_ _ | refine blk_drew ?_ | refine blk_alloc ?_ _)); exact BK436.out⟩, ⟨by (with_reducible repeat (first | refine blk_drewN ?_ _ | refine blk_drew ?_ | refine blk_alloc ?_ _)); refine blk_far ?_ NB437_438.out _; (with_reducible repeat (first | refine blk_drewN ?_ _ | refine blk_drew ?_ | refine blk_alloc ?_ _)); refine blk_far ?_ NB437_438.out _; (with_reducible repeat (first | refine blk_drewN ?_ _ | refine blk_drew ?_ | refine blk_alloc ?_ _)); exact BK437.out⟩, ⟨by (with_reducible repeat (first | refine blk_drewN ?_ _ | refine blk_drew ?_ | refine blk_alloc ?_ _)); refine blk_put (cs := #[.int .i64 t440, .slice Ao25 x439001_1.length co25]) ?_ 1 _ rfl; (with_reducible repeat (first | refine blk_drewN ?_ _ | refine blk_drew ?_ | refine blk_alloc ?_ _)); refine blk_put (cs := #[.int .i64 x439000_1, .slice Ao25 x439001_1.length co25]) ?_ 0 _ rfl; (with_reducible repeat (first | refine blk_drewN ?_ _ | refine blk_drew ?_ | refine blk_alloc ?_ _)); exact BK438.out⟩, ⟨by repeat (first | (with_reducible first | exact HB.out | apply below_alloc | apply pw_below_drewN | apply below_drew1 | refine below_set ?_ GE435.out | refine below_set ?_ GE436.out | refine below_set ?_ GE437.out | refine below_set ?_ GE438.out) | exact HB.out)⟩⟩
     ·rw [if_neg c18] at H
      exact absurd H (by simp)
    ·rw [if_neg c17] at H
     have c17b0 : decide (x6_1 < (l0_1.length : Int)) = false := decide_eq_false c17
     clear c17
     have H' := Aside0.mk H
     clear H
     have hnb30 := NB435_436.out
     have hnc30 := NB436_435.out
     have hnb31 := NB435_437.out
     have hnc31 := NB437_435.out
     have hnb32 := NB435_438.out
     have hnc32 := NB438_435.out
     have hcz33_0 : wr.cell? ⟨gb435, 0, none⟩ = some (.int .i64 a0_0) := (blk_cell BK435.out 0).trans rfl
     have hcz33_1 : wr.cell? ⟨gb435, 1, none⟩ = some (.slice A0_1 l0_1.length c0_1) := (blk_cell BK435.out 1).trans rfl
     have hfz33_0 := blk_frozen BK435.out 0
     have hfz33_1 := blk_frozen BK435.out 1
     go_wp2
     go_loopg [7] k1 (fun kq v7 w' => ∃ (x7_2 : Int) (x439000_2 : Int) (x439001_2 : List Int) (u439001 : Value), v7 = .int .i64 x7_2 ∧ Aside0 (cenotaphref02_Union_f.l1 kq x7_2 a1_0 l1_1 x439000_2 x439001_2 = some (r1, r2)) ∧ Aside0 (kq ≤ k1) ∧ Aside0 (Kd.R (Kd.int .i64) 3 w' w.heap.size (fun _ => True) u439001 x439001_2) ∧ Aside0 (w'.heap[gb435]? = some (.cells #[.int .i64 a0_0, (.slice A0_1 l0_1.length c0_1)] 25 (0, 0))) ∧ Aside0 (w'.heap[gb436]? = some (.cells #[.int .i64 a1_0, (.slice A1_1 l1_1.length c1_1)] 25 (0, 0))) ∧ Aside0 (w'.heap[gb437]? = some (.cells #[.int .i64 0, (.slice none 0 0)] 25 (0, 0))) ∧ Aside0 (w'.heap[gb438]? = some (.cells #[.int .i64 x439000_2, u439001] 25 (0, 0))) ∧ Aside0 (Below w.heap.size w w'))
     case atStart => exact ⟨(0), (x439000_1), (x439001_1), (u439001), zq56xx_12, H', ⟨Nat.le_refl _⟩, ⟨by (with_reducible repeat (first | apply Kd.R_alloc | apply Kd.R_drewN | apply Kd.R_drew)); exact HO_439001.out⟩, ⟨by (with_reducible repeat (first | refine blk_drewN ?_ _ | refine blk_drew ?_ | refine blk_alloc ?_ _)); exact BK435.out⟩, ⟨by (with_reducible repeat (first | refine blk_drewN ?_ _ | refine blk_drew ?_ | refine blk_alloc ?_ _)); exact BK436.out⟩, ⟨by (with_reducible repeat (first | refine blk_drewN ?_ _ | refine blk_drew ?_ | refine blk_alloc ?_ _)); exact BK437.out⟩, ⟨by (with_reducible repeat (first | refine blk_drewN ?_ _ | refine blk_drew ?_ | refine blk_alloc ?_ _)); exact BK438.out⟩, ⟨by repeat (first | (with_reducible first | exact HB.out | apply below_alloc | apply pw_below_drewN | apply below_drew1 | refine below_set ?_ GE435.out | refine below_set ?_ GE436.out | refine below_set ?_ GE437.out | refine below_set ?_ GE438.out) | exact HB.out)⟩⟩
     case round =>
      clear H'
      try clear c1
      try clear c2
      try clear p2
      try clear c3
      try clear c3b0
      try clear p4
      try clear q4
      try clear hx4
      try clear c5
      try clear p6
      try clear c7
      try clear c8
      try clear c10
      try clear c13
      try clear c14
      try clear c15
      try clear c17
      try clear c17b0
      try clear c18
      try clear c18b0
      try clear c20
      try clear c21
      try clear c22
      try clear c30
      try clear c31
      try clear c32
      try clear hcz11_0
      try clear hcz11_1
      try clear hcz16_0
      try clear hcz16_1
      try clear hcz23_0
      try clear hcz23_1
      try clear hcz33_0
      try clear hcz33_1
      try clear hcz9_0
      try clear hcz9_1
      try clear hfz11_0
      try clear hfz11_1
      try clear hfz16_0
      try clear hfz16_1
      try clear hfz23_0
      try clear hfz23_1
      try clear hfz33_0
      try clear hfz33_1
      try clear hfz9_0
      try clear hfz9_1
      try clear hx439_0
      try clear p2
      try clear p439
      try clear q439
      obtain ⟨x7_2, x439000_2, x439001_2, u439001, rfl, HA, HK2, HO_439001, BK435, BK436, BK437, BK438, HB⟩ := hrel
      cases gk with
      | zero => exact absurd HA.out (by simp [cenotaphref02_Union_f.l1])
      | succ k2 =>
       have H := HA.out
       clear HA
       simp only [cenotaphref02_Union_f.l1] at H
       by_cases c34 : x7_2 < (l1_1.length : Int)
       ·rw [if_pos c34] at H
        have c34b0 : decide (x7_2 < (l1_1.length : Int)) = true := decide_eq_true c34
        clear c34
        by_cases c35 : 0 ≤ x7_2
        ·rw [if_pos c35] at H
         have c35b0 : decide (0 ≤ x7_2) = true := decide_eq_true c35
         clear c35
         replace H := Option.bind_eq_some_iff.mp H
         obtain ⟨⟨t445, t446⟩, A360, H⟩ := H
         replace H : (cenotaphref02_Union_f.l1 k2 (wrap64 (x7_2 + 1)) a1_0 l1_1 t445 t446) = some (r1, r2) := H
         have A36 := Aside0.mk A360
         clear A360
         have H' := Aside0.mk H
         clear H
         have hnb37 := NB436_435.out
         have hnc37 := NB435_436.out
         have hnb38 := NB436_437.out
         have hnc38 := NB437_436.out
         have hnb39 := NB436_438.out
         have hnc39 := NB438_436.out
         have hcz40_0 : wr.cell? ⟨gb436, 0, none⟩ = some (.int .i64 a1_0) := (blk_cell BK436.out 0).trans rfl
         have hcz40_1 : wr.cell? ⟨gb436, 1, none⟩ = some (.slice A1_1 l1_1.length c1_1) := (blk_cell BK436.out 1).trans rfl
         have hfz40_0 := blk_frozen BK436.out 0
         have hfz40_1 := blk_frozen BK436.out 1
         try go_wp2
         replace HO_439001 := Aside0.mk (Kd.R_drew HO_439001.out)
         replace BK435 := Aside0.mk (blk_drew BK435.out)
         replace BK436 := Aside0.mk (blk_drew BK436.out)
         replace BK437 := Aside0.mk (blk_drew BK437.out)
         replace BK438 := Aside0.mk (blk_drew BK438.out)
         replace HB := Aside0.mk (below_drew1 HB.out)
         have p444 : 0 ≤ (x7_2 : Int) := of_decide_eq_true zq56xx_11
         have q444 : x7_2 < (l1_1.length : Int) := of_decide_eq_true zq56xx_11
         obtain ⟨ad444, e444, hx444_0⟩ := Kd.at_int HR1_1.out x7_2 p444 q444
         have hw444_0 := hx444_0
         cases e444
         replace hx444_0 := (HB.out.cell (World.block_lt_of_cell? w _ hx444_0)).trans hx444_0
         replace p444 := eq_true p444
         replace q444 := eq_true q444
         obtain ⟨Ao42, co42, eo42⟩ := Kd.R_slice HO_439001.out
         (first | subst eo42 | (injection eo42 with f1_ f2_ f3_; have f4_ := f1_.symm; have f5_ := f3_.symm; clear f1_ f2_ f3_; subst f4_; subst f5_))
         refine start_ (n := 8) (S := fun w' => w'.cell? ⟨gb438, 0, none⟩ = some (.int .i64 x439000_2) ∧ w'.cell? ⟨gb438, 1, none⟩ = some (.slice Ao42 x439001_2.length co42) ∧ w'.cell? ⟨gb436, 0, none⟩ = some (.int .i64 a1_0) ∧ w'.cell? ⟨gb436, 1, none⟩ = some (.slice (some ad444) l1_1.length c1_1) ∧ w'.cell? (ad444.add (x7_2).toNat) = some (.int .i64 (rd l1_1 x7_2))) (ds := [7]) #[false, false, false, false, false, false, false, false] (by kernel_rfl) rfl rfl ⟨(blk_cell BK438.out 0).trans rfl, (blk_cell BK438.out 1).trans rfl, (blk_cell BK436.out 0).trans rfl, (blk_cell BK436.out 1).trans rfl, ((HB.out.cell (World.block_lt_of_cell? w _ hw444_0)).trans hw444_0)⟩ (fun hHeld => ?_); refine with_tabW cenotaphref02_Union_f.tab11 cenotaphref02_Union_f.bits11 (fun HT_ HW_ => ?_)
         generalize wr.drew = w41 at HO_439001 BK435 BK436 BK437 BK438 HB hx444_0 hHeld ⊢
         refine p_ 1 40 (mk_ 8 0x2) ?_
         refine p_ 3 42 (mk_ 8 0xa) ?_
         refine t_ 0 39 (mk_ 8 0xb) hHeld ?_
         refine t_ 2 41 (mk_ 8 0xf) hHeld ?_
         refine p_ 4 43 (mk_ 8 0x1f) ?_
         refine t_ 5 44 (mk_ 8 0x3f) hHeld ?_
         refine one_ (i := 6) (N := some 45) #[true, true, true, true, true, true, true, false] rfl rfl (one_of HT_.out (by kernel_rfl)) (by decide) (fun K hK => ?_)
         refine goes_ Try.func51 (by kernel_rfl) rfl #[.agg #[.int .i64 x439000_2, .slice Ao42 x439001_2.length co42], .int .i64 (rd l1_1 x7_2)] (by rfl) rfl rfl (by (try simp only [List.map_toArray, List.map_cons, List.map_nil]); first | done | rfl | (simp only [List.length_drop, List.length_take]; rfl)) ?_
         with_reducible refine (cenotaphref02_Add.calls k2 x439000_2 _ _ x439001_2 (rd l1_1 x7_2) t445 t446 _ ?side1 ?side2 A36.out).mono ?_
         (case side1 => repeat (first | exact (Kd.R_reads' HO_439001.out).2.2 | (with_reducible refine Kd.C_alloc ?_ _) | (with_reducible refine Kd.C_drewN ?_ _) | (with_reducible refine Kd.C_drew ?_)))
         (case side2 => exact (Kd.R_reads' HO_439001.out).2.1)
         rintro e w43 ⟨v447, rfl, ho0, hb⟩
         refine ⟨_, rfl, ?_⟩
         have HO448 := Aside0.mk (Kd.R_lower (Kd.R_new' ho0 (Kd.R_lt zq56xx_10)) (below_size zq56xx_0))
         replace HO_439001 := Aside0.mk (Kd.R_elder' zq56xx_10 (Kd.R_base ho0) hb)
         replace BK435 := Aside0.mk (blk_below (g := gb435) (o := .cells #[.int .i64 a0_0, .slice A0_1 l0_1.length c0_1] 25 (0, 0)) zq56xx_7 hb)
         replace BK436 := Aside0.mk (blk_below (g := gb436) (o := .cells #[.int .i64 a1_0, .slice (some ad444) l1_1.length c1_1] 25 (0, 0)) zq56xx_8 hb)
         replace BK437 := Aside0.mk (blk_below (g := gb437) (o := .cells #[.int .i64 0, .slice none 0 0] 25 (0, 0)) zq56xx_9 hb)
         replace BK438 := Aside0.mk (blk_below (g := gb438) (o := .cells #[.int .i64 x439000_2, .slice Ao42 x439001_2.length co42] 25 (0, 0)) (by (with_reducible repeat (first | refine blk_drewN ?_ _ | refine blk_drew ?_ | refine blk_alloc ?_ _)); exact BK438.out) hb)
         replace HB := Aside0.mk (below_step zq56xx_0 hb)
         (try clear hb)
         (try clear hb2)
         (try clear hk)
         (try clear hi)
         (try clear ho0)
         obtain ⟨Ao45, co45, eo45⟩ := Kd.R_slice HO448.out
         (first | subst eo45 | (injection eo45 with f1_ f2_ f3_; have f4_ := f1_.symm; have f5_ := f3_.symm; clear f1_ f2_ f3_; subst f4_; subst f5_))
         refine hK.out _ _ ⟨(blk_cell BK438.out 0).trans rfl, (blk_cell BK438.out 1).trans rfl, (blk_cell BK436.out 0).trans rfl, (blk_cell BK436.out 1).trans rfl, ((HB.out.cell (World.block_lt_of_cell? w _ hw444_0)).trans hw444_0)⟩ (fun hHeld => ?_)
         clear hK K
         refine norm_ (a' := ?_) ?_ ?_
         rotate_left
         ·show Act.put _ (some 45) _ = _
          simp only [Act.put, List.setIfInBounds_toArray, List.set_cons_zero, List.set_cons_succ, i64_w, i32_w]
          rfl
         refine last_ (i := 7) (N := none) #[true, true, true, true, true, true, true, true] rfl rfl (one_of HT_.out (by kernel_rfl)) (by decide) (fun K hK => ?_)
         have hs44 : w43.cell? ⟨gb438, 0, none⟩ = some (.int .i64 x439000_2) := (blk_cell BK438.out 0).trans rfl
         have hfs44 := blk_frozen BK438.out 0
         have hns44_0 := NB435_438.out
         have hns44_1 := NB436_438.out
         have hns44_2 := NB437_438.out
         have hms44_0 := NB438_435.out
         have hms44_1 := NB438_436.out
         have hms44_2 := NB438_437.out
         have hs46 : w43.cell? ⟨gb438, 1, none⟩ = some (.slice Ao42 x439001_2.length co42) := (blk_cell BK438.out 1).trans rfl
         have hfs46 := blk_frozen BK438.out 1
         have hns46_0 := NB435_438.out
         have hns46_1 := NB436_438.out
         have hns46_2 := NB437_438.out
         have hms46_0 := NB438_435.out
         have hms46_1 := NB438_436.out
         have hms46_2 := NB438_437.out
         refine skip_ (w1 := ?_) (by rfl) rfl ?_ ?_
         rotate_left
         ·go_simp
          rfl
         refine hK.out _ _ ?_
         clear hK K
         refine done_ (done_of HT_.out (by kernel_rfl)) ?_
         try go_wp2
         go_roundg k2
         case measure => have := HK1.out; have := HK2.out; omega
         case rel => exact ⟨(wrap64 (x7_2 + 1)), (t445), (t446), (.slice Ao45 t446.length co45), zq56xx_12, H', ⟨by have := HK1.out; have := HK2.out; omega⟩, ⟨by (with_reducible repeat (first | apply Kd.R_alloc | apply Kd.R_drewN | apply Kd.R_drew)); exact Kd.R_mono (Kd.R_far (p := ⟨gb438, 1, none⟩) (Kd.R_far (p := ⟨gb438, 0, none⟩) (Kd.R_types HO448.out BK438.out (by decide)) (fun _ hk => hk.2) (.int .i64 t445)) (fun _ hk => hk.2) (.slice Ao45 t446.length co45)) (fun _ hk => trivial)⟩, ⟨by (with_reducible repeat (first | refine blk_drewN ?_ _ | refine blk_drew ?_ | refine blk_alloc ?_ _)); refine blk_far ?_ NB435_438.out _; (with_reducible repeat (first | refine blk_drewN ?_ _ | refine blk_drew ?_ | refine blk_alloc ?_ _)); refine blk_far ?_ NB435_438.out _; (with_reducible repeat (first | refine blk_drewN ?_ _ | refine blk_drew ?_ | refine blk_alloc ?_ _)); exact BK435.out⟩, ⟨by (with_reducible repeat (first | refine blk_drewN ?_ _ | refine blk_drew ?_ | refine blk_alloc ?_ _)); refine blk_far ?_ NB436_438.out _; (with_reducible repeat (first | refine blk_drewN ?_ _ | refine blk_drew ?_ | refine blk_alloc ?_ _)); refine blk_far ?_ NB436_438.out _; (with_reducible repeat (first | refine blk_drewN ?_ _ | refine blk_drew ?_ | refine blk_alloc ?_ _)); exact BK436.out⟩, ⟨by (with_reducible repeat (first | refine blk_drewN ?_ _ | refine blk_drew ?_ | refine blk_alloc ?_ _)); refine blk_far ?_ NB437_438.out _; (with_reducible repeat (first | refine blk_drewN ?_ _ | refine blk_drew ?_ | refine blk_alloc ?_ _)); refine blk_far ?_ NB437_438.out _; (with_reducible repeat (first | refine blk_drewN ?_ _ | refine blk_drew ?_ | refine blk_alloc ?_ _)); exact BK437.out⟩, ⟨by (with_reducible repeat (first | refine blk_drewN ?_ _ | refine blk_drew ?_ | refine blk_alloc ?_ _)); refine blk_put (cs := #[.int .i64 t445, .slice Ao42 x439001_2.length co42]) ?_ 1 _ rfl; (with_reducible repeat (first | refine blk_drewN ?_ _ | refine blk_drew ?_ | refine blk_alloc ?_ _)); refine blk_put (cs := #[.int .i64 x439000_2, .slice Ao42 x439001_2.length co42]) ?_ 0 _ rfl; (with_reducible repeat (first | refine blk_drewN ?_ _ | refine blk_drew ?_ | refine blk_alloc ?_ _)); exact BK438.out⟩, ⟨by repeat (first | (with_reducible first | exact HB.out | apply below_alloc | apply pw_below_drewN | apply below_drew1 | refine below_set ?_ GE435.out | refine below_set ?_ GE436.out | refine below_set ?_ GE437.out | refine below_set ?_ GE438.out) | exact HB.out)⟩⟩
        ·rw [if_neg c35] at H
         exact absurd H (by simp)
       ·rw [if_neg c34] at H
        have c34b0 : decide (x7_2 < (l1_1.length : Int)) = false := decide_eq_false c34
        clear c34
        simp only [Option.some.injEq, Prod.mk.injEq] at H
        obtain ⟨rfl, rfl⟩ := H
        have hnb47 := NB436_435.out
        have hnc47 := NB435_436.out
        have hnb48 := NB436_437.out
        have hnc48 := NB437_436.out
        have hnb49 := NB436_438.out
        have hnc49 := NB438_436.out
        have hcz50_0 : wr.cell? ⟨gb436, 0, none⟩ = some (.int .i64 a1_0) := (blk_cell BK436.out 0).trans rfl
        have hcz50_1 : wr.cell? ⟨gb436, 1, none⟩ = some (.slice A1_1 l1_1.length c1_1) := (blk_cell BK436.out 1).trans rfl
        have hfz50_0 := blk_frozen BK436.out 0
        have hfz50_1 := blk_frozen BK436.out 1
        have hnb51 := NB438_435.out
        have hnc51 := NB435_438.out
        have hnb52 := NB438_437.out
        have hnc52 := NB437_438.out
        have hcz53_0 : wr.cell? ⟨gb438, 0, none⟩ = some (.int .i64 x439000_2) := (blk_cell BK438.out 0).trans rfl
        have hcz53_1 : wr.cell? ⟨gb438, 1, none⟩ = some (u439001) := (blk_cell BK438.out 1).trans rfl
        have hfz53_0 := blk_frozen BK438.out 0
        have hfz53_1 := blk_frozen BK438.out 1
        have hnb54 := NB437_435.out
        have hnc54 := NB435_437.out
        have hcz55_0 : wr.cell? ⟨gb437, 0, none⟩ = some (.int .i64 0) := (blk_cell BK437.out 0).trans rfl
        have hcz55_1 : wr.cell? ⟨gb437, 1, none⟩ = some (.slice none 0 0) := (blk_cell BK437.out 1).trans rfl
        have hfz55_0 := blk_frozen BK437.out 0
        have hfz55_1 := blk_frozen BK437.out 1
        obtain ⟨Ao56, co56, eo56⟩ := Kd.R_slice HO_439001.out
        subst eo56
        go_wp2
        refine bodyPost_ret (results_cell_row rfl _ _ gb437 25 #[.int .i64 x439000_2, .slice Ao56 x439001_2.length co56] (0, 0) _ rfl (by (with_reducible repeat (first | refine blk_drewN ?_ _ | refine blk_drew ?_ | refine blk_alloc ?_ _)); refine blk_put (cs := #[.int .i64 x439000_2, .slice none 0 0]) ?_ 1 _ rfl; (with_reducible repeat (first | refine blk_drewN ?_ _ | refine blk_drew ?_ | refine blk_alloc ?_ _)); refine blk_put (cs := #[.int .i64 0, .slice none 0 0]) ?_ 0 _ rfl; (with_reducible repeat (first | refine blk_drewN ?_ _ | refine blk_drew ?_ | refine blk_alloc ?_ _)); exact BK437.out) Try.underlying25 rfl (by kernel_rfl)) rfl ?_
        exact ⟨_, by first | rfl | (simp [errW_none, errW_some] <;> rfl) | (simp [*, errW_none, errW_some] <;> rfl), by (with_reducible repeat (first | apply Kd.R_alloc | apply Kd.R_drewN | apply Kd.R_drew)); exact Kd.R_mono (Kd.R_far (p := ⟨gb437, 1, none⟩) (Kd.R_far (p := ⟨gb437, 0, none⟩) (Kd.R_types HO_439001.out BK437.out (by decide)) (fun _ hk => hk.2) (.int .i64 x439000_2)) (fun _ hk => hk.2) (.slice Ao56 x439001_2.length co56)) (fun _ hk => trivial), by repeat (first | (with_reducible first | exact HB.out | apply below_alloc | apply pw_below_drewN | apply below_drew1 | refine below_set ?_ GE435.out | refine below_set ?_ GE436.out | refine below_set ?_ GE437.out | refine below_set ?_ GE438.out) | exact HB.out)⟩

def cenotaphref02_Union.f (k : Nat) (a0_0 : Int) (l0_1 : List Int) (a1_0 : Int) (l1_1 : List Int) : Option (Int × List Int) := if a1_0 > a0_0 then (cenotaphref02_Union_t.f k a0_0 l0_1 a1_0 l1_1) else (cenotaphref02_Union_f.f k a0_0 l0_1 a1_0 l1_1)
theorem cenotaphref02_Union.mono : ∀ a0 a1 a2 a3 k, LeO (cenotaphref02_Union.f k a0 a1 a2 a3) (cenotaphref02_Union.f (k + 1) a0 a1 a2 a3) := by
  intro a0 a1 a2 a3 k
  unfold cenotaphref02_Union.f
  exact LeO.ite (cenotaphref02_Union_t.mono _ _ _ _ _ ) (cenotaphref02_Union_f.mono _ _ _ _ _ )
theorem cenotaphref02_Union.calls (k : Nat) (a0_0 : Int) (A0_1 : Option Addr) (c0_1 : Nat) (l0_1 : List Int) (a1_0 : Int) (A1_1 : Option Addr) (c1_1 : Nat) (l1_1 : List Int) (r1 : Int) (r2 : List Int) (w : World) (hr0_1 : Kd.C (Kd.int .i64) w A0_1 l0_1.length l0_1) (hc0_1 : l0_1.length ≤ c0_1) (hr1_1 : Kd.C (Kd.int .i64) w A1_1 l1_1.length l1_1) (hc1_1 : l1_1.length ≤ c1_1) (h : cenotaphref02_Union.f k a0_0 l0_1 a1_0 l1_1 = some (r1, r2)) :
  Calls Try.prog 56 #[.agg #[.int .i64 a0_0, .slice A0_1 l0_1.length c0_1], .agg #[.int .i64 a1_0, .slice A1_1 l1_1.length c1_1]] w fun e w' => ∃ v1_ : Value, e = .returned (.agg #[.int .i64 r1, v1_]) ∧ Kd.R (Kd.int .i64) 3 w' w.heap.size (fun _ => True) v1_ r2 ∧ Below w.heap.size w w' := by
  by_cases hc_ : a1_0 > a0_0
  · rw [cenotaphref02_Union.f, if_pos hc_] at h; exact cenotaphref02_Union_t.calls k a0_0 A0_1 c0_1 l0_1 a1_0 A1_1 c1_1 l1_1 r1 r2 w hr0_1 hc0_1 hr1_1 hc1_1 h
  · rw [cenotaphref02_Union.f, if_neg hc_] at h; exact cenotaphref02_Union_f.calls k a0_0 A0_1 c0_1 l0_1 a1_0 A1_1 c1_1 l1_1 r1 r2 w hr0_1 hc0_1 hr1_1 hc1_1 h

/-! ### cenotaphref04_Union: function 29 -/
theorem zq29_0 {p_ : Prop} (h_ : p_ := by (try simp only [List.map_toArray, List.map_cons, List.map_nil]); first | done | rfl | (simp only [List.length_drop, List.length_take]; rfl)) : p_ := h_
theorem zq29_1 {p_ : Prop} (h_ : p_ := by repeat (first | (with_reducible first | exact HB.out | apply below_alloc | apply pw_below_drewN | apply below_drew1) | exact HB.out)) : p_ := h_
theorem zq29_2 {p_ : Prop} (h_ : p_ := by (with_reducible repeat (first | apply Kd.V_alloc | apply Kd.V_drewN | apply Kd.V_drew)); exact HO_5.out) : p_ := h_
theorem zq29_3 {p_ : Prop} (h_ : p_ := by first | (with_reducible assumption) | assumption) : p_ := h_
def cenotaphref04_Union.l0 : Nat → List (S27) → List (S27) → Int → Option ((List (S27)))
 | 0, _, _, _ => none
 | k + 1, x1, x5, x6 => if x6 < (x1.length : Int) then (if 0 ≤ x6 then ((cenotaphref04_Of.f k x5 ((rd_T27 x1 x6).f0)).bind fun bt457 => ((cenotaphref02_Union.f k bt457.1 bt457.2 ((rd_T27 x1 x6).f1.f0) ((rd_T27 x1 x6).f1.f1)).bind fun bt462 => ((cenotaphref04_put.f k x5 ((rd_T27 x1 x6).f0) bt462.1 bt462.2).bind fun t466 => (cenotaphref04_Union.l0 k x1 t466 (wrap64 (x6 + 1)))))) else (none)) else (some x5)
def cenotaphref04_Union.f (k : Nat) (l0 : List (S27)) (l1 : List (S27)) : Option ((List (S27))) := (some (([] : List (S27)) : List (S27))).bind fun y449 => (if y449.length + l0.length < 2932031007402 then (cenotaphref04_Union.l0 k l1 (y449 ++ l0) 0) else (none))
theorem cenotaphref04_Union.mono_l : ∀ k, (∀ y0 y1 y2, LeO (cenotaphref04_Union.l0 k y0 y1 y2) (cenotaphref04_Union.l0 (k + 1) y0 y1 y2))
 | 0 => fun _ _ _ r h => by simp [cenotaphref04_Union.l0] at h
 | k + 1 => by
  have ih0 := cenotaphref04_Union.mono_l k
  ·intro y0 y1 y2
   unfold cenotaphref04_Union.l0
   repeat' first
   | (with_reducible exact ih0 _ _ _)
   | (with_reducible exact cenotaphref02_Union.mono _ _ _ _ _)
   | (with_reducible exact cenotaphref04_Of.mono _ _ _)
   | (with_reducible exact cenotaphref04_put.mono _ _ _ _ _)
   | (with_reducible exact LeO.refl _)
   | (with_reducible exact LeO.none _)
   | (with_reducible refine LeO.ite ?_ ?_)
   | (with_reducible refine LeO.bind ?_ (fun _ => ?_))
   | exact ih0 _ _ _
   | exact cenotaphref02_Union.mono _ _ _ _ _
   | exact cenotaphref04_Of.mono _ _ _
   | exact cenotaphref04_put.mono _ _ _ _ _
   | exact LeO.none _
   | refine LeO.ite ?_ ?_
   | refine LeO.bind ?_ (fun _ => ?_)
theorem cenotaphref04_Union.mono : ∀ a0 a1 k, LeO (cenotaphref04_Union.f k a0 a1) (cenotaphref04_Union.f (k + 1) a0 a1) := by
 intro a0 a1 k
 have ih0 := cenotaphref04_Union.mono_l k
 unfold cenotaphref04_Union.f
 repeat' first
   | (with_reducible exact ih0 _ _ _)
   | (with_reducible exact cenotaphref02_Union.mono _ _ _ _ _)
   | (with_reducible exact cenotaphref04_Of.mono _ _ _)
   | (with_reducible exact cenotaphref04_put.mono _ _ _ _ _)
   | (with_reducible exact LeO.refl _)
   | (with_reducible exact LeO.none _)
   | (with_reducible refine LeO.ite ?_ ?_)
   | (with_reducible refine LeO.bind ?_ (fun _ => ?_))
   | exact ih0 _ _ _
   | exact cenotaphref02_Union.mono _ _ _ _ _
   | exact cenotaphref04_Of.mono _ _ _
   | exact cenotaphref04_put.mono _ _ _ _ _
   | exact LeO.none _
   | refine LeO.ite ?_ ?_
   | refine LeO.bind ?_ (fun _ => ?_)
def cenotaphref04_Union.T5 : Bool × List (List Nat × List Nat) := (true, [([], []), ([], []), ([], []), ([1, 2], [1, 2]), ([3], [3]), ([4], [4]), ([], []), ([], []), ([], []), ([7, 8], [7, 8]), ([9], [9]), ([10], [10]), ([6, 11], [6, 11]), ([], []), ([], []), ([13, 14], [13, 14]), ([15], [15]), ([16], [16]), ([12, 17, 12], [12, 17]), ([0, 5, 18, 18], [0, 5, 18]), ([19, 19, 0, 1, 2, 3, 4, 5, 6, 7, 8, 9, 10, 11, 12, 13, 14, 15, 16, 17, 18, 19], [0, 6, 19])])
def cenotaphref04_Union.B5 : List Nat := [0, 0, 0, 6, 14, 30, 0, 0, 0, 384, 896, 1920, 4032, 0, 0, 24576, 57344, 122880, 262080, 524287, 1048575]
theorem cenotaphref04_Union.tab5 : rtab .any (opsOf Try.f29 5) = cenotaphref04_Union.T5 := by kernel_rfl
theorem cenotaphref04_Union.bits5 : waitsOk cenotaphref04_Union.T5.2 cenotaphref04_Union.B5 = true := by kernel_rfl
set_option maxHeartbeats 8000000 in
set_option maxRecDepth 100000 in
theorem cenotaphref04_Union.calls (k : Nat) (P0_ : Nat → Prop) (A0 : Option Addr) (c0 : Nat) (l0 : List (S27)) (A1 : Option Addr) (c1 : Nat) (l1 : List (S27)) (r : List (S27)) (w : World) (hs0 : Kd.V k27 27 w w.heap.size (fun k_ => P0_ k_) (.slice A0 l0.length c0) l0) (hr1 : Kd.C k27 w A1 l1.length l1) (hc1 : l1.length ≤ c1) (h : cenotaphref04_Union.f k l0 l1 = some r) :
  Calls Try.prog 29 #[.slice A0 l0.length c0, .slice A1 l1.length c1] w fun e w' => ∃ v0_ : Value, e = .returned (v0_) ∧ Kd.V k27 27 w' w.heap.size (fun k_ => (P0_ k_ ∨ w.heap.size ≤ k_)) v0_ r ∧ Below w.heap.size w w' := by
 have hu25 := Try.underlying25
 have HO0 := Aside0.mk (show Kd.V k27 27 w w.heap.size (fun k_ => (P0_ k_ ∨ w.heap.size ≤ k_)) (.slice A0 l0.length c0) l0 from Kd.V_mono hs0 (fun k_ hk => .inl hk))
 have HR1 := Aside0.mk hr1
 have HC1 := Aside0.mk hc1
 clear hr1 hc1
 have HB := Aside0.mk (Below.refl w.heap.size w)
 have H : ((some (([] : List (S27)) : List (S27))).bind fun y449 => (if y449.length + l0.length < 2932031007402 then (cenotaphref04_Union.l0 k l1 (y449 ++ l0) 0) else (none))) = some r := h
 clear h
 obtain ⟨y449, hy449⟩ : ∃ y_ : List (S27), y_ = (([] : List (S27))) := ⟨_, rfl⟩
 replace H : (if y449.length + l0.length < 2932031007402 then (cenotaphref04_Union.l0 k l1 (y449 ++ l0) 0) else (none)) = some r := by first | (rw [hy449]; with_reducible exact H) | (have H2_ := (Option.bind_some _ _).symm.trans H; rw [hy449]; with_reducible exact H2_) | (have H2_ := (Option.bind_some _ _).symm.trans H; with_reducible exact H2_) | with_reducible exact H | (rw [hy449]; exact H) | exact H
 have Ny449 := Aside0.mk hy449
 clear hy449
 by_cases c3 : y449.length + l0.length < 2932031007402
 ·rw [if_pos c3] at H
  have LMc3 := Aside0.mk c3
  clear c3
  obtain ⟨y452, hy452⟩ : ∃ y_ : List (S27), y_ = (y449 ++ l0) := ⟨_, rfl⟩
  replace H : (cenotaphref04_Union.l0 k l1 y452 0) = some r := by first | (rw [hy452]; with_reducible exact H) | (have H2_ := (Option.bind_some _ _).symm.trans H; rw [hy452]; with_reducible exact H2_) | (have H2_ := (Option.bind_some _ _).symm.trans H; with_reducible exact H2_) | with_reducible exact H | (rw [hy452]; exact H) | exact H
  have Ny452 := Aside0.mk hy452
  clear hy452
  have H' := Aside0.mk H
  clear H
  go_enter Try.func29, Try.ntmps29
  go_wp2_with (first | ((with_reducible refine gate_dst (N := 7) rfl ?_); refine Kd.N_lit k27 _ 27 ?hg (N' := 7) ?hd (xs := ([] : List (S27))) (inner := []) (ok := (fun k_ => (P0_ k_ ∨ w.heap.size ≤ k_))) (okp := (fun k_ => (P0_ k_ ∨ w.heap.size ≤ k_))) ?hr ?hp (fun _ hk => hk) ((show ∀ k_, w.heap.size ≤ k_ → (fun k_ => (P0_ k_ ∨ w.heap.size ≤ k_)) k_ from fun k_ hk => (.inr (Nat.le_trans (below_size zq29_1) hk))) _ (Nat.le_refl _)) (Below.refl _ _) (Nat.le_refl _) (by simp) ?_; (case hd => rfl); (case hg => rfl); (case hr => first | (go_simp; done) | (go_simp; rfl)); (case hp => exact (Reps.none _ _)); intro v450 w4 ho5 hb hg_ hnew_; clear hg_ hnew_; (first | rw [← Ny449.out] at ho5 | (simp only [Int.reduceToNat] at ho5; rw [← Ny449.out] at ho5)); replace HO0 := Aside0.mk (Kd.V_elder' (by (with_reducible repeat (first | apply Kd.V_alloc | apply Kd.V_drewN | apply Kd.V_drew)); exact HO0.out) (Kd.N_base ho5) hb); have HO451 := Aside0.mk (Kd.N_lower ho5 (below_size zq29_1)); replace HB := Aside0.mk (below_step zq29_1 hb); clear hb ho5) | ((with_reducible refine gate_builtin (b := .append) (xs := #[.tmp 7, .tmp 8]) rfl ?_); at_builtin; refine Kd.N_append_rows k27 (w0 := w) w.heap.size rfl (.tmp 7) (.tmp 8) 22 27 (.agg #[(.string ⟨#[]⟩), (.int .i64 0), (.slice none 0 0)]) 48 rfl Try.underlying22 info27 rfl (by decide) (by omega) v450 y449 l0 _ _ _ (fun k_ => (P0_ k_ ∨ w.heap.size ≤ k_)) (fun k_ => ((fun k_ => (P0_ k_ ∨ w.heap.size ≤ k_))) k_ ∧ some k_ ≠ (v450 : Value).ownBlock) rfl rfl ?aO ?aR (fun _ hk => hk) ?aF ?aB ?aS ?aL ?_; (case aR => exact (by skip; exact Kd.V_F (Kd.V_mono (ok' := (fun k_ => ((fun k_ => (P0_ k_ ∨ w.heap.size ≤ k_))) k_ ∧ some k_ ≠ (v450 : Value).ownBlock)) (HO0.out) (fun k_ hk => ⟨hk.1, hk.2⟩)))); (case aB => exact zq29_1); (case aF => exact (fun k_ hk => (.inr (Nat.le_trans (below_size zq29_1) hk)))); (case aO => exact (by (with_reducible repeat (first | apply Kd.N_alloc | apply Kd.N_drewN | apply Kd.N_drew)); exact HO451.out)); (case aS => exact (below_size zq29_1)); (case aL => have := LMc3.out; omega); intro v453 w6 ho hb hg hat; rw [← Ny452.out] at ho; replace HO0 := Aside0.mk (Kd.V_afterv (ok := (fun k_ => (P0_ k_ ∨ w.heap.size ≤ k_))) (by (with_reducible repeat (first | apply Kd.V_alloc | apply Kd.V_drewN | apply Kd.V_drew)); exact HO0.out) hg hat); replace HB := Aside0.mk (hb); have HO454 := Aside0.mk (ho); clear HO451; clear ho hb hg hat))
  go_loopg [5, 6] k (fun kq v5 v6 w' => ∃ (x5_1 : List (S27)) (x6_1 : Int), v6 = .int .i64 x6_1 ∧ Aside0 (cenotaphref04_Union.l0 kq l1 x5_1 x6_1 = some r) ∧ Aside0 (kq ≤ k) ∧ Aside0 (Kd.V k27 27 w' w.heap.size (fun k_ => (P0_ k_ ∨ w.heap.size ≤ k_)) v5 x5_1) ∧ Aside0 (Below w.heap.size w w'))
  case atStart => exact ⟨(y452), (0), (by first | rfl | (simp; done) | (simp [*]; done)), H', ⟨Nat.le_refl _⟩, ⟨Kd.N_V (by (with_reducible repeat (first | apply Kd.N_alloc | apply Kd.N_drewN | apply Kd.N_drew)); exact HO454.out)⟩, ⟨by repeat (first | (with_reducible first | exact HB.out | apply below_alloc | apply pw_below_drewN | apply below_drew1) | exact HB.out)⟩⟩
  case round =>
   clear H'
   try clear c1
   try clear c2
   try clear p2
   try clear c3
   obtain ⟨x5_1, x6_1, rfl, HA, HK1, HO_5, HB⟩ := hrel
   cases gk with
   | zero => exact absurd HA.out (by simp [cenotaphref04_Union.l0])
   | succ k1 =>
    have H := HA.out
    clear HA
    simp only [cenotaphref04_Union.l0] at H
    by_cases c7 : x6_1 < (l1.length : Int)
    ·rw [if_pos c7] at H
     have c7b0 : decide (x6_1 < (l1.length : Int)) = true := decide_eq_true c7
     clear c7
     by_cases c8 : 0 ≤ x6_1
     ·rw [if_pos c8] at H
      have c8b0 : decide (0 ≤ x6_1) = true := decide_eq_true c8
      clear c8
      replace H := Option.bind_eq_some_iff.mp H
      obtain ⟨⟨t457, t458⟩, A90, H⟩ := H
      have A9 := Aside0.mk A90
      clear A90
      replace H := Option.bind_eq_some_iff.mp H
      obtain ⟨⟨t462, t463⟩, A100, H⟩ := H
      have A10 := Aside0.mk A100
      clear A100
      replace H := Option.bind_eq_some_iff.mp H
      obtain ⟨t466, A110, H⟩ := H
      have A11 := Aside0.mk A110
      clear A110
      have H' := Aside0.mk H
      clear H
      try go_wp2
      replace HO_5 := Aside0.mk (Kd.V_drew HO_5.out)
      replace HB := Aside0.mk (below_drew1 HB.out)
      have p455 : 0 ≤ (x6_1 : Int) := of_decide_eq_true zq29_3
      have q455 : x6_1 < (l1.length : Int) := of_decide_eq_true zq29_3
      obtain ⟨ad455, A455_2, c455_2, e455, hx455_0, hx455_1, hx455_2, hl455_2, hi455_2⟩ := at_T27 HR1.out x6_1 p455 q455
      have hw455_2 := hx455_2
      have hw455_1 := hx455_1
      have hw455_0 := hx455_0
      cases e455
      replace hx455_0 := (HB.out.cell (World.block_lt_of_cell? w _ hx455_0)).trans hx455_0
      replace hx455_1 := (HB.out.cell (World.block_lt_of_cell? w _ hx455_1)).trans hx455_1
      replace hx455_2 := (HB.out.cell (World.block_lt_of_cell? w _ hx455_2)).trans hx455_2
      have HR455_2 := Aside0.mk hi455_2
      have HC455_2 := Aside0.mk hl455_2
      clear hi455_2 hl455_2
      replace p455 := eq_true p455
      replace q455 := eq_true q455
      have p456 : 0 ≤ (x6_1 : Int) := of_decide_eq_true zq29_3
      have q456 : x6_1 < (l1.length : Int) := of_decide_eq_true zq29_3
      obtain ⟨ad456, A456_2, c456_2, e456, hx456_0, hx456_1, hx456_2, hl456_2, hi456_2⟩ := at_T27 HR1.out x6_1 p456 q456
      have hw456_2 := hx456_2
      have hw456_1 := hx456_1
      have hw456_0 := hx456_0
      obtain rfl : ad455 = ad456 := (by injection e456)
      replace hx456_0 := (HB.out.cell (World.block_lt_of_cell? w _ hx456_0)).trans hx456_0
      replace hx456_1 := (HB.out.cell (World.block_lt_of_cell? w _ hx456_1)).trans hx456_1
      replace hx456_2 := (HB.out.cell (World.block_lt_of_cell? w _ hx456_2)).trans hx456_2
      have HR456_2 := Aside0.mk hi456_2
      have HC456_2 := Aside0.mk hl456_2
      clear hi456_2 hl456_2
      replace p456 := eq_true p456
      replace q456 := eq_true q456
      have ea_ := Option.some.inj (hx455_2.symm.trans hx456_2)
      injection ea_ with ea_ en_ ec_
      subst ea_
      subst ec_
      clear en_
      have p461 : 0 ≤ (x6_1 : Int) := of_decide_eq_true zq29_3
      have q461 : x6_1 < (l1.length : Int) := of_decide_eq_true zq29_3
      obtain ⟨ad461, A461_2, c461_2, e461, hx461_0, hx461_1, hx461_2, hl461_2, hi461_2⟩ := at_T27 HR1.out x6_1 p461 q461
      have hw461_2 := hx461_2
      have hw461_1 := hx461_1
      have hw461_0 := hx461_0
      obtain rfl : ad455 = ad461 := (by injection e461)
      replace hx461_0 := (HB.out.cell (World.block_lt_of_cell? w _ hx461_0)).trans hx461_0
      replace hx461_1 := (HB.out.cell (World.block_lt_of_cell? w _ hx461_1)).trans hx461_1
      replace hx461_2 := (HB.out.cell (World.block_lt_of_cell? w _ hx461_2)).trans hx461_2
      have HR461_2 := Aside0.mk hi461_2
      have HC461_2 := Aside0.mk hl461_2
      clear hi461_2 hl461_2
      replace p461 := eq_true p461
      replace q461 := eq_true q461
      have ea_ := Option.some.inj (hx455_2.symm.trans hx461_2)
      injection ea_ with ea_ en_ ec_
      subst ea_
      subst ec_
      clear en_
      obtain ⟨Ao13, co13, eo13⟩ := Kd.V_slice HO_5.out
      (first | subst eo13 | (injection eo13 with f1_ f2_ f3_; have f4_ := f1_.symm; have f5_ := f3_.symm; clear f1_ f2_ f3_; subst f4_; subst f5_))
      refine start_ (n := 21) (S := fun w' => w'.cell? (ad455.add ((x6_1).toNat * 3)) = some (.string ((rd_T27 l1 x6_1).f0)) ∧ w'.cell? ⟨(ad455.add ((x6_1).toNat * 3)).block, (ad455.add ((x6_1).toNat * 3)).off + 1, none⟩ = some (.int .i64 ((rd_T27 l1 x6_1).f1.f0)) ∧ w'.cell? ⟨(ad455.add ((x6_1).toNat * 3)).block, (ad455.add ((x6_1).toNat * 3)).off + 2, none⟩ = some (.slice A455_2 ((rd_T27 l1 x6_1).f1.f1).length c455_2) ∧ w'.cell? (ad455.add ((x6_1).toNat * 3)) = some (.string ((rd_T27 l1 x6_1).f0)) ∧ w'.cell? ⟨(ad455.add ((x6_1).toNat * 3)).block, (ad455.add ((x6_1).toNat * 3)).off + 1, none⟩ = some (.int .i64 ((rd_T27 l1 x6_1).f1.f0)) ∧ w'.cell? ⟨(ad455.add ((x6_1).toNat * 3)).block, (ad455.add ((x6_1).toNat * 3)).off + 2, none⟩ = some (.slice A455_2 ((rd_T27 l1 x6_1).f1.f1).length c455_2) ∧ w'.cell? (ad455.add ((x6_1).toNat * 3)) = some (.string ((rd_T27 l1 x6_1).f0)) ∧ w'.cell? ⟨(ad455.add ((x6_1).toNat * 3)).block, (ad455.add ((x6_1).toNat * 3)).off + 1, none⟩ = some (.int .i64 ((rd_T27 l1 x6_1).f1.f0)) ∧ w'.cell? ⟨(ad455.add ((x6_1).toNat * 3)).block, (ad455.add ((x6_1).toNat * 3)).off + 2, none⟩ = some (.slice A455_2 ((rd_T27 l1 x6_1).f1.f1).length c455_2)) (ds := []) #[false, false, false, false, false, false, false, false, false, false, false, false, false, false, false, false, false, false, false, false, false] (by kernel_rfl) rfl rfl ⟨((HB.out.cell (World.block_lt_of_cell? w _ hw455_0)).trans hw455_0), ((HB.out.cell (World.block_lt_of_cell? w _ hw455_1)).trans hw455_1), ((HB.out.cell (World.block_lt_of_cell? w _ hw455_2)).trans hw455_2), ((HB.out.cell (World.block_lt_of_cell? w _ hw456_0)).trans hw456_0), ((HB.out.cell (World.block_lt_of_cell? w _ hw456_1)).trans hw456_1), ((HB.out.cell (World.block_lt_of_cell? w _ hw456_2)).trans hw456_2), ((HB.out.cell (World.block_lt_of_cell? w _ hw461_0)).trans hw461_0), ((HB.out.cell (World.block_lt_of_cell? w _ hw461_1)).trans hw461_1), ((HB.out.cell (World.block_lt_of_cell? w _ hw461_2)).trans hw461_2)⟩ (fun hHeld => ?_); refine with_tabW cenotaphref04_Union.tab5 cenotaphref04_Union.bits5 (fun HT_ HW_ => ?_)
      generalize wr.drew = w12 at HO_5 HB HR455_2 HR456_2 HR461_2 hx455_0 hx455_1 hx455_2 hx456_0 hx456_1 hx456_2 hx461_0 hx461_1 hx461_2 hHeld ⊢
      refine p_ 0 16 (mk_ 21 0x1) ?_
      refine p_ 1 17 (mk_ 21 0x3) ?_
      refine p_ 2 18 (mk_ 21 0x7) ?_
      refine p_ 3 19 (mk_ 21 0xf) ?_
      refine p_ 4 20 (mk_ 21 0x1f) ?_
      refine p_ 6 22 (mk_ 21 0x5f) ?_
      refine p_ 7 23 (mk_ 21 0xdf) ?_
      refine p_ 8 24 (mk_ 21 0x1df) ?_
      refine p_ 9 25 (mk_ 21 0x3df) ?_
      refine p_ 10 26 (mk_ 21 0x7df) ?_
      refine p_ 13 29 (mk_ 21 0x27df) ?_
      refine p_ 14 30 (mk_ 21 0x67df) ?_
      refine p_ 15 31 (mk_ 21 0xe7df) ?_
      refine p_ 16 32 (mk_ 21 0x1e7df) ?_
      refine t_ 5 21 (mk_ 21 0x1e7ff) hHeld ?_
      refine t_ 11 27 (mk_ 21 0x1efff) hHeld ?_
      refine t_ 17 33 (mk_ 21 0x3efff) hHeld ?_
      refine one_ (i := 12) (N := some 28) #[true, true, true, true, true, true, true, true, true, true, true, true, true, true, true, true, true, true, false, false, false] rfl rfl (one_of HT_.out (by kernel_rfl)) (by decide) (fun K hK => ?_)
      refine goes_ Try.func21 (by kernel_rfl) rfl #[.slice Ao13 x5_1.length co13, .string ((rd_T27 l1 x6_1).f0)] (by rfl) rfl rfl zq29_0 ?_
      with_reducible refine (cenotaphref04_Of.calls k1 (fun k_ => (P0_ k_ ∨ w.heap.size ≤ k_)) _ _ x5_1 ((rd_T27 l1 x6_1).f0) t457 t458 _ ?side1 A9.out).mono ?_
      (case side1 => exact HO_5.out)
      rintro e w14 ⟨v459, rfl, ho0, hb⟩
      refine ⟨_, rfl, ?_⟩
      replace HO_5 := Aside0.mk (Kd.V_below zq29_2 hb)
      have HO460 := Aside0.mk (Kd.V_lower (Kd.V_mono (ok' := fun k_ => (P0_ k_ ∨ w.heap.size ≤ k_)) ho0 (fun k_ hk_ => Or.elim hk_ (fun hs_ => hs_) (fun hn_ => (.inr (Nat.le_trans (below_size zq29_1) hn_))))) (below_size zq29_1))
      replace HB := Aside0.mk (below_step zq29_1 hb)
      (try clear hb)
      (try clear hb2)
      (try clear hk)
      (try clear hi)
      (try clear ho0)
      obtain ⟨Ao15, co15, eo15⟩ := Kd.V_slice HO460.out
      (first | subst eo15 | (injection eo15 with f1_ f2_ f3_; have f4_ := f1_.symm; have f5_ := f3_.symm; clear f1_ f2_ f3_; subst f4_; subst f5_))
      refine hK.out _ _ ⟨((HB.out.cell (World.block_lt_of_cell? w _ hw455_0)).trans hw455_0), ((HB.out.cell (World.block_lt_of_cell? w _ hw455_1)).trans hw455_1), ((HB.out.cell (World.block_lt_of_cell? w _ hw455_2)).trans hw455_2), ((HB.out.cell (World.block_lt_of_cell? w _ hw456_0)).trans hw456_0), ((HB.out.cell (World.block_lt_of_cell? w _ hw456_1)).trans hw456_1), ((HB.out.cell (World.block_lt_of_cell? w _ hw456_2)).trans hw456_2), ((HB.out.cell (World.block_lt_of_cell? w _ hw461_0)).trans hw461_0), ((HB.out.cell (World.block_lt_of_cell? w _ hw461_1)).trans hw461_1), ((HB.out.cell (World.block_lt_of_cell? w _ hw461_2)).trans hw461_2)⟩ (fun hHeld => ?_)
      clear hK K
      refine norm_ (a' := ?_) ?_ ?_
      rotate_left
      ·show Act.put _ (some 28) _ = _
       simp only [Act.put, List.setIfInBounds_toArray, List.set_cons_zero, List.set_cons_succ, i64_w, i32_w]
       rfl
      refine one_ (i := 18) (N := some 34) #[true, true, true, true, true, true, true, true, true, true, true, true, true, true, true, true, true, true, true, false, false] rfl rfl (one_of HT_.out (by kernel_rfl)) (by decide) (fun K hK => ?_)
      refine goes_ Try.func56 (by kernel_rfl) rfl #[.agg #[.int .i64 t457, .slice Ao15 t458.length co15], .agg #[.int .i64 ((rd_T27 l1 x6_1).f1.f0), .slice A455_2 ((rd_T27 l1 x6_1).f1.f1).length c455_2]] (by rfl) rfl rfl zq29_0 ?_
      with_reducible refine (cenotaphref02_Union.calls k1 t457 _ _ t458 ((rd_T27 l1 x6_1).f1.f0) _ _ ((rd_T27 l1 x6_1).f1.f1) t462 t463 _ ?side1 ?side2 ?side3 ?side4 A10.out).mono ?_
      (case side1 => repeat (first | exact (Kd.V_reads' HO460.out).2.2 | (with_reducible refine Kd.C_alloc ?_ _) | (with_reducible refine Kd.C_drewN ?_ _) | (with_reducible refine Kd.C_drew ?_)))
      (case side2 => exact (Kd.V_reads' HO460.out).2.1)
      (case side3 => repeat (first | exact (Kd.C_below HR461_2.out HB.out) | (with_reducible refine Kd.C_alloc ?_ _) | (with_reducible refine Kd.C_drewN ?_ _) | (with_reducible refine Kd.C_drew ?_)))
      (case side4 => exact HC461_2.out)
      rintro e w16 ⟨v464, rfl, ho0, hb⟩
      refine ⟨_, rfl, ?_⟩
      replace HO_5 := Aside0.mk (Kd.V_elder' zq29_2 (Kd.R_base ho0) hb)
      replace HO460 := Aside0.mk (Kd.V_elder' (by (with_reducible repeat (first | apply Kd.V_alloc | apply Kd.V_drewN | apply Kd.V_drew)); exact HO460.out) (Kd.R_base ho0) hb)
      have HO465 := Aside0.mk (Kd.R_lower (Kd.R_newM (M := fun k_ => (w.heap.size ≤ k_)) ho0 (below_size zq29_1) (fun k_ h_ => h_)) (below_size zq29_1))
      replace HB := Aside0.mk (below_step zq29_1 hb)
      (try clear hb)
      (try clear hb2)
      (try clear hk)
      (try clear hi)
      (try clear ho0)
      obtain ⟨Ao17, co17, eo17⟩ := Kd.R_slice HO465.out
      (first | subst eo17 | (injection eo17 with f1_ f2_ f3_; have f4_ := f1_.symm; have f5_ := f3_.symm; clear f1_ f2_ f3_; subst f4_; subst f5_))
      refine hK.out _ _ ⟨((HB.out.cell (World.block_lt_of_cell? w _ hw455_0)).trans hw455_0), ((HB.out.cell (World.block_lt_of_cell? w _ hw455_1)).trans hw455_1), ((HB.out.cell (World.block_lt_of_cell? w _ hw455_2)).trans hw455_2), ((HB.out.cell (World.block_lt_of_cell? w _ hw456_0)).trans hw456_0), ((HB.out.cell (World.block_lt_of_cell? w _ hw456_1)).trans hw456_1), ((HB.out.cell (World.block_lt_of_cell? w _ hw456_2)).trans hw456_2), ((HB.out.cell (World.block_lt_of_cell? w _ hw461_0)).trans hw461_0), ((HB.out.cell (World.block_lt_of_cell? w _ hw461_1)).trans hw461_1), ((HB.out.cell (World.block_lt_of_cell? w _ hw461_2)).trans hw461_2)⟩ (fun hHeld => ?_)
      clear hK K
      refine norm_ (a' := ?_) ?_ ?_
      rotate_left
      ·show Act.put _ (some 34) _ = _
       simp only [Act.put, List.setIfInBounds_toArray, List.set_cons_zero, List.set_cons_succ, i64_w, i32_w]
       rfl
      refine one_ (i := 19) (N := some 35) #[true, true, true, true, true, true, true, true, true, true, true, true, true, true, true, true, true, true, true, true, false] rfl rfl (one_of HT_.out (by kernel_rfl)) (by decide) (fun K hK => ?_)
      refine goes_ Try.func43 (by kernel_rfl) rfl #[.slice Ao13 x5_1.length co13, .string ((rd_T27 l1 x6_1).f0), .agg #[.int .i64 t462, .slice Ao17 t463.length co17]] (by rfl) rfl rfl zq29_0 ?_
      with_reducible refine (cenotaphref04_put.calls k1 (fun k_ => ((P0_ k_ ∨ w.heap.size ≤ k_) ∧ some k_ ≠ (.slice Ao17 t463.length co17 : Value).ownBlock)) _ _ x5_1 ((rd_T27 l1 x6_1).f0) t462 (fun k_ => some k_ = (.slice Ao17 t463.length co17 : Value).ownBlock) _ _ t463 t466 _ ?side1 ?side2 A11.out).mono ?_
      (case side1 => exact HO_5.out)
      (case side2 => exact Kd.R_V (Kd.R_tight rfl (HO465.out)))
      rintro e w18 ⟨v467, rfl, ho0, hb⟩
      refine ⟨_, rfl, ?_⟩
      replace HO_5 := Aside0.mk (Kd.V_below zq29_2 hb)
      replace HO460 := Aside0.mk (Kd.V_below (by (with_reducible repeat (first | apply Kd.V_alloc | apply Kd.V_drewN | apply Kd.V_drew)); exact HO460.out) hb)
      have HO468 := Aside0.mk (Kd.V_lower (Kd.V_mono (ok' := fun k_ => (P0_ k_ ∨ w.heap.size ≤ k_)) ho0 (fun k_ hk_ => Or.elim hk_ (fun hs_ => Or.elim hs_ (fun hs_ => hs_.1) (fun hs_ => (.inr (((HO465.out).1 k_ hs_.symm).1)))) (fun hn_ => (.inr (Nat.le_trans (below_size zq29_1) hn_))))) (below_size zq29_1))
      replace HO465 := Aside0.mk (Kd.R_below (by (with_reducible repeat (first | apply Kd.R_alloc | apply Kd.R_drewN | apply Kd.R_drew)); exact HO465.out) hb)
      replace HB := Aside0.mk (below_step zq29_1 hb)
      (try clear hb)
      (try clear hb2)
      (try clear hk)
      (try clear hi)
      (try clear ho0)
      refine hK.out _ _ ⟨((HB.out.cell (World.block_lt_of_cell? w _ hw455_0)).trans hw455_0), ((HB.out.cell (World.block_lt_of_cell? w _ hw455_1)).trans hw455_1), ((HB.out.cell (World.block_lt_of_cell? w _ hw455_2)).trans hw455_2), ((HB.out.cell (World.block_lt_of_cell? w _ hw456_0)).trans hw456_0), ((HB.out.cell (World.block_lt_of_cell? w _ hw456_1)).trans hw456_1), ((HB.out.cell (World.block_lt_of_cell? w _ hw456_2)).trans hw456_2), ((HB.out.cell (World.block_lt_of_cell? w _ hw461_0)).trans hw461_0), ((HB.out.cell (World.block_lt_of_cell? w _ hw461_1)).trans hw461_1), ((HB.out.cell (World.block_lt_of_cell? w _ hw461_2)).trans hw461_2)⟩ (fun hHeld => ?_)
      clear hK K
      refine norm_ (a' := ?_) ?_ ?_
      rotate_left
      ·show Act.put _ (some 35) _ = _
       simp only [Act.put, List.setIfInBounds_toArray, List.set_cons_zero, List.set_cons_succ, i64_w, i32_w]
       rfl
      refine p_ 20 5 (mk_ 21 0x1fffff) ?_
      refine done_ (done_of HT_.out (by kernel_rfl)) ?_
      try go_wp2
      go_roundg k1
      case measure => have := HK1.out; omega
      case rel => exact ⟨(t466), (wrap64 (x6_1 + 1)), (by first | rfl | (simp; done) | (simp [*]; done)), H', ⟨by have := HK1.out; omega⟩, ⟨by (with_reducible repeat (first | apply Kd.V_alloc | apply Kd.V_drewN | apply Kd.V_drew)); exact HO468.out⟩, ⟨by repeat (first | (with_reducible first | exact HB.out | apply below_alloc | apply pw_below_drewN | apply below_drew1) | exact HB.out)⟩⟩
     ·rw [if_neg c8] at H
      exact absurd H (by simp)
    ·rw [if_neg c7] at H
     have c7b0 : decide (x6_1 < (l1.length : Int)) = false := decide_eq_false c7
     clear c7
     obtain rfl := Option.some.inj H
     go_wp2
     go_ret
     exact ⟨_, by first | rfl | (simp [errW_none, errW_some] <;> rfl) | (simp [*, errW_none, errW_some] <;> rfl), by (with_reducible repeat (first | apply Kd.V_alloc | apply Kd.V_drewN | apply Kd.V_drew)); exact HO_5.out, by repeat (first | (with_reducible first | exact HB.out | apply below_alloc | apply pw_below_drewN | apply below_drew1) | exact HB.out)⟩
 ·rw [if_neg c3] at H
  exact absurd H (by simp)

end Go.Proofs.Ytkfehkaiifjkmaa.P
