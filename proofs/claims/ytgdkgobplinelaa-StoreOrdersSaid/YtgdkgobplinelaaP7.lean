-- Written by a program of this session (wip/pp.py over the kit's printer, with our own texts put in).
import Derived.Test.YtgdkgobplinelaaP0
import Derived.Test.YtgdkgobplinelaaP4
import Derived.Test.YtgdkgobplinelaaP6
namespace Go.Proofs.Ytgdkgobplinelaa.P
open Go.RowKit Go.Proofs.YtgdkgobplinelaaW.PrintWords Go.Proofs.YtgdkgobplinelaaW.PrintLast Go.Proofs.YtgdkgobplinelaaW.PrintMore
attribute [local go_sem] run_store_complex max2_int min2_int max_two min_two max_three min_three max_four min_four   -- for this text's walks alone
set_option linter.unusedVariables false
set_option linter.unusedSimpArgs false

attribute [local go_sem high] eqA38
/-! ### store_yields: function 38 -/
theorem zq38_0 {p_ : Prop} (h_ : p_ := by rw [hg]; exact Nat.ne_of_lt (blk_lt (g := gb196) (o := .cells #[.int .i64 a0_0, .string a0_1, .int .i64 a0_2, .int .i64 a0_3, .bool a0_4, .complex .f64 a0_5.re a0_5.im, .string a0_6, .bool a0_7] 41 (0, 0)) (by (with_reducible repeat (first | refine blk_drewN ?_ _ | refine blk_drew ?_ | refine blk_alloc ?_ _)); exact BK196.out))) : p_ := h_
theorem zq38_1 {p_ : Prop} (h_ : p_ := by rw [hg]; exact Nat.ne_of_gt (blk_lt (g := gb196) (o := .cells #[.int .i64 a0_0, .string a0_1, .int .i64 a0_2, .int .i64 a0_3, .bool a0_4, .complex .f64 a0_5.re a0_5.im, .string a0_6, .bool a0_7] 41 (0, 0)) (by (with_reducible repeat (first | refine blk_drewN ?_ _ | refine blk_drew ?_ | refine blk_alloc ?_ _)); exact BK196.out))) : p_ := h_
theorem zq38_2 {p_ : Prop} (h_ : p_ := by rw [hg]; exact (below_size (by repeat (first | (with_reducible first | exact HB.out | apply below_alloc | apply pw_below_drewN | apply below_drew1 | refine below_set ?_ GE196.out) | exact HB.out)))) : p_ := h_
theorem zq38_3 {p_ : Prop} (h_ : p_ := by rw [hg]; exact (below_size (by repeat (first | (with_reducible first | exact HB.out | apply below_alloc | apply pw_below_drewN | apply below_drew1) | exact HB.out)))) : p_ := h_
theorem zq38_4 {p_ : Prop} (h_ : p_ := by repeat (first | (with_reducible first | exact HB.out | apply below_alloc | apply pw_below_drewN | apply below_drew1 | refine below_set ?_ GE196.out) | exact HB.out)) : p_ := h_
theorem zq38_5 {p_ : Prop} (h_ : p_ := by repeat (first | (with_reducible first | exact HB.out | apply below_alloc | apply pw_below_drewN | apply below_drew1) | exact HB.out)) : p_ := h_
theorem zq38_6 {p_ : Prop} (h_ : p_ := by (with_reducible repeat (first | refine blk_drewN ?_ _ | refine blk_drew ?_ | refine blk_alloc ?_ _)); exact BK196.out) : p_ := h_
def store_yields.f (a0_0 : Int) (a0_1 : ByteArray) (a0_2 : Int) (a0_3 : Int) (a0_4 : Bool) (a0_5 : Cx) (a0_6 : ByteArray) (a0_7 : Bool) (a1_0 : Int) (a1_1 : ByteArray) (a1_2 : Int) (a1_3 : Int) (a1_4 : Bool) (a1_5 : Cx) (a1_6 : ByteArray) (a1_7 : Bool) : Option (Bool) := if (a0_1.toList == a1_1.toList && (a0_2 == a1_2 && (a0_3 == a1_3))) = true then (if a1_7 = true then (some (!a0_7)) else (some false)) else ((item_Newer.f a0_1 a0_2 a0_3 a1_1 a1_2 a1_3).bind fun t198 => (some (!t198)))
set_option maxHeartbeats 8000000 in
set_option maxRecDepth 100000 in
theorem store_yields.calls (a0_0 : Int) (a0_1 : ByteArray) (a0_2 : Int) (a0_3 : Int) (a0_4 : Bool) (a0_5 : Cx) (a0_6 : ByteArray) (a0_7 : Bool) (a1_0 : Int) (a1_1 : ByteArray) (a1_2 : Int) (a1_3 : Int) (a1_4 : Bool) (a1_5 : Cx) (a1_6 : ByteArray) (a1_7 : Bool) (r : Bool) (w : World) (h : store_yields.f a0_0 a0_1 a0_2 a0_3 a0_4 a0_5 a0_6 a0_7 a1_0 a1_1 a1_2 a1_3 a1_4 a1_5 a1_6 a1_7 = some r) :
  Calls Try.prog 38 #[.agg #[.int .i64 a0_0, .string a0_1, .int .i64 a0_2, .int .i64 a0_3, .bool a0_4, .complex .f64 a0_5.re a0_5.im, .string a0_6, .bool a0_7], .agg #[.int .i64 a1_0, .string a1_1, .int .i64 a1_2, .int .i64 a1_3, .bool a1_4, .complex .f64 a1_5.re a1_5.im, .string a1_6, .bool a1_7]] w fun e w' => e = .returned (.bool r) ∧ Below w.heap.size w w' := by
 have hu41 := Try.underlying41
 have hu38 := Try.underlying38
 have HB := Aside0.mk (Below.refl w.heap.size w)
 have H := h
 unfold store_yields.f at H
 clear h
 by_cases c3 : (a0_1.toList == a1_1.toList && (a0_2 == a1_2 && (a0_3 == a1_3))) = true
 ·rw [if_pos c3] at H
  have c3b0 : (a0_1.toList == a1_1.toList && (a0_2 == a1_2 && (a0_3 == a1_3))) = true := c3
  (try (have c3b1 : decide (a0_1.toList = a1_1.toList && (a0_2 == a1_2 && (a0_3 == a1_3))) = true := by simpa using c3))
  (try (have c3b2 : (a0_1.toList == a1_1.toList && (a0_2 == a1_2 && (a0_3 == a1_3))) = true := by simpa using c3))
  clear c3
  by_cases c4 : a1_7 = true
  ·subst c4
   have H1 : (some (!a0_7)) = some r := by rw [if_pos rfl] at H; exact H
   clear H
   have H := H1
   clear H1
   obtain rfl := Option.some.inj H
   go_enter Try.func38, Try.ntmps38
   go_wp2_with (first | ((with_reducible refine gate_dst (N := 2) rfl ?_); refine box_event ?hg (N := 2) ?hd (cs := #[.int .i64 a0_0, .string a0_1, .int .i64 a0_2, .int .i64 a0_3, .bool a0_4, .complex .f64 a0_5.re a0_5.im, .string a0_6, .bool a0_7]) (t := 41) ?hr ?_; (case hd => rfl); (case hg => rfl); (case hr => first | (go_simp; done) | (go_simp; rfl)); intro gb196 hg w5 hbox hb; have BK196 := Aside0.mk (hbox); have GW196 := Aside0.mk ((zq38_3 : w.heap.size ≤ gb196)); have GE196 := Aside0.mk ((zq38_3 : w.heap.size ≤ gb196)); replace HB := Aside0.mk (below_step zq38_5 hb); clear hb hbox hg) | ((with_reducible refine gate_dst (N := 3) rfl ?_); refine box_event ?hg (N := 3) ?hd (cs := #[.int .i64 a1_0, .string a1_1, .int .i64 a1_2, .int .i64 a1_3, .bool a1_4, .complex .f64 a1_5.re a1_5.im, .string a1_6, .bool true]) (t := 41) ?hr ?_; (case hd => rfl); (case hg => rfl); (case hr => first | (go_simp; done) | (go_simp; rfl)); intro gb197 hg w6 hbox hb; have BK197 := Aside0.mk (hbox); have GW197 := Aside0.mk ((zq38_2 : w.heap.size ≤ gb197)); have GE197 := Aside0.mk ((zq38_2 : w.heap.size ≤ gb197)); replace HB := Aside0.mk (below_step zq38_4 hb); have NB196_197 := Aside0.mk ((zq38_0 : gb196 ≠ gb197)); have NB197_196 := Aside0.mk ((zq38_1 : gb197 ≠ gb196)); replace BK196 := Aside0.mk (blk_below (g := gb196) (o := .cells #[.int .i64 a0_0, .string a0_1, .int .i64 a0_2, .int .i64 a0_3, .bool a0_4, .complex .f64 a0_5.re a0_5.im, .string a0_6, .bool a0_7] 41 (0, 0)) zq38_6 hb); clear hb hbox hg; have hnb7 := NB196_197.out; have hnc7 := NB197_196.out; have hcz8_0 : w6.cell? ⟨gb196, 0, none⟩ = some (.int .i64 a0_0) := (blk_cell BK196.out 0).trans rfl; have hcz8_1 : w6.cell? ⟨gb196, 1, none⟩ = some (.string a0_1) := (blk_cell BK196.out 1).trans rfl; have hcz8_2 : w6.cell? ⟨gb196, 2, none⟩ = some (.int .i64 a0_2) := (blk_cell BK196.out 2).trans rfl; have hcz8_3 : w6.cell? ⟨gb196, 3, none⟩ = some (.int .i64 a0_3) := (blk_cell BK196.out 3).trans rfl; have hcz8_4 : w6.cell? ⟨gb196, 4, none⟩ = some (.bool a0_4) := (blk_cell BK196.out 4).trans rfl; have hcz8_5 : w6.cell? ⟨gb196, 5, none⟩ = some (.complex .f64 a0_5.re a0_5.im) := (blk_cell BK196.out 5).trans rfl; have hcz8_6 : w6.cell? ⟨gb196, 6, none⟩ = some (.string a0_6) := (blk_cell BK196.out 6).trans rfl; have hcz8_7 : w6.cell? ⟨gb196, 7, none⟩ = some (.bool a0_7) := (blk_cell BK196.out 7).trans rfl; have hfz8_0 := blk_frozen BK196.out 0; have hfz8_1 := blk_frozen BK196.out 1; have hfz8_2 := blk_frozen BK196.out 2; have hfz8_3 := blk_frozen BK196.out 3; have hfz8_4 := blk_frozen BK196.out 4; have hfz8_5 := blk_frozen BK196.out 5; have hfz8_6 := blk_frozen BK196.out 6; have hfz8_7 := blk_frozen BK196.out 7; have hcz9_0 : w6.cell? ⟨gb197, 0, none⟩ = some (.int .i64 a1_0) := (blk_cell BK197.out 0).trans rfl; have hcz9_1 : w6.cell? ⟨gb197, 1, none⟩ = some (.string a1_1) := (blk_cell BK197.out 1).trans rfl; have hcz9_2 : w6.cell? ⟨gb197, 2, none⟩ = some (.int .i64 a1_2) := (blk_cell BK197.out 2).trans rfl; have hcz9_3 : w6.cell? ⟨gb197, 3, none⟩ = some (.int .i64 a1_3) := (blk_cell BK197.out 3).trans rfl; have hcz9_4 : w6.cell? ⟨gb197, 4, none⟩ = some (.bool a1_4) := (blk_cell BK197.out 4).trans rfl; have hcz9_5 : w6.cell? ⟨gb197, 5, none⟩ = some (.complex .f64 a1_5.re a1_5.im) := (blk_cell BK197.out 5).trans rfl; have hcz9_6 : w6.cell? ⟨gb197, 6, none⟩ = some (.string a1_6) := (blk_cell BK197.out 6).trans rfl; have hcz9_7 : w6.cell? ⟨gb197, 7, none⟩ = some (.bool true) := (blk_cell BK197.out 7).trans rfl; have hfz9_0 := blk_frozen BK197.out 0; have hfz9_1 := blk_frozen BK197.out 1; have hfz9_2 := blk_frozen BK197.out 2; have hfz9_3 := blk_frozen BK197.out 3; have hfz9_4 := blk_frozen BK197.out 4; have hfz9_5 := blk_frozen BK197.out 5; have hfz9_6 := blk_frozen BK197.out 6; have hfz9_7 := blk_frozen BK197.out 7))
   go_ret
   exact ⟨by first | rfl | (simp [errW_none, errW_some] <;> rfl) | (simp [*, errW_none, errW_some] <;> rfl), by repeat (first | (with_reducible first | exact HB.out | apply below_alloc | apply pw_below_drewN | apply below_drew1 | refine below_set ?_ GE196.out | refine below_set ?_ GE197.out) | exact HB.out)⟩
  ·replace c4 := Bool.eq_false_iff.mpr c4
   subst c4
   have H1 : (some false) = some r := by rw [if_neg (show ¬ (false = true) by decide)] at H; exact H
   clear H
   have H := H1
   clear H1
   obtain rfl := Option.some.inj H
   go_enter Try.func38, Try.ntmps38
   go_wp2_with (first | ((with_reducible refine gate_dst (N := 2) rfl ?_); refine box_event ?hg (N := 2) ?hd (cs := #[.int .i64 a0_0, .string a0_1, .int .i64 a0_2, .int .i64 a0_3, .bool a0_4, .complex .f64 a0_5.re a0_5.im, .string a0_6, .bool a0_7]) (t := 41) ?hr ?_; (case hd => rfl); (case hg => rfl); (case hr => first | (go_simp; done) | (go_simp; rfl)); intro gb196 hg w10 hbox hb; have BK196 := Aside0.mk (hbox); have GW196 := Aside0.mk ((zq38_3 : w.heap.size ≤ gb196)); have GE196 := Aside0.mk ((zq38_3 : w.heap.size ≤ gb196)); replace HB := Aside0.mk (below_step zq38_5 hb); clear hb hbox hg) | ((with_reducible refine gate_dst (N := 3) rfl ?_); refine box_event ?hg (N := 3) ?hd (cs := #[.int .i64 a1_0, .string a1_1, .int .i64 a1_2, .int .i64 a1_3, .bool a1_4, .complex .f64 a1_5.re a1_5.im, .string a1_6, .bool false]) (t := 41) ?hr ?_; (case hd => rfl); (case hg => rfl); (case hr => first | (go_simp; done) | (go_simp; rfl)); intro gb197 hg w11 hbox hb; have BK197 := Aside0.mk (hbox); have GW197 := Aside0.mk ((zq38_2 : w.heap.size ≤ gb197)); have GE197 := Aside0.mk ((zq38_2 : w.heap.size ≤ gb197)); replace HB := Aside0.mk (below_step zq38_4 hb); have NB196_197 := Aside0.mk ((zq38_0 : gb196 ≠ gb197)); have NB197_196 := Aside0.mk ((zq38_1 : gb197 ≠ gb196)); replace BK196 := Aside0.mk (blk_below (g := gb196) (o := .cells #[.int .i64 a0_0, .string a0_1, .int .i64 a0_2, .int .i64 a0_3, .bool a0_4, .complex .f64 a0_5.re a0_5.im, .string a0_6, .bool a0_7] 41 (0, 0)) zq38_6 hb); clear hb hbox hg; have hnb12 := NB196_197.out; have hnc12 := NB197_196.out; have hcz13_0 : w11.cell? ⟨gb196, 0, none⟩ = some (.int .i64 a0_0) := (blk_cell BK196.out 0).trans rfl; have hcz13_1 : w11.cell? ⟨gb196, 1, none⟩ = some (.string a0_1) := (blk_cell BK196.out 1).trans rfl; have hcz13_2 : w11.cell? ⟨gb196, 2, none⟩ = some (.int .i64 a0_2) := (blk_cell BK196.out 2).trans rfl; have hcz13_3 : w11.cell? ⟨gb196, 3, none⟩ = some (.int .i64 a0_3) := (blk_cell BK196.out 3).trans rfl; have hcz13_4 : w11.cell? ⟨gb196, 4, none⟩ = some (.bool a0_4) := (blk_cell BK196.out 4).trans rfl; have hcz13_5 : w11.cell? ⟨gb196, 5, none⟩ = some (.complex .f64 a0_5.re a0_5.im) := (blk_cell BK196.out 5).trans rfl; have hcz13_6 : w11.cell? ⟨gb196, 6, none⟩ = some (.string a0_6) := (blk_cell BK196.out 6).trans rfl; have hcz13_7 : w11.cell? ⟨gb196, 7, none⟩ = some (.bool a0_7) := (blk_cell BK196.out 7).trans rfl; have hfz13_0 := blk_frozen BK196.out 0; have hfz13_1 := blk_frozen BK196.out 1; have hfz13_2 := blk_frozen BK196.out 2; have hfz13_3 := blk_frozen BK196.out 3; have hfz13_4 := blk_frozen BK196.out 4; have hfz13_5 := blk_frozen BK196.out 5; have hfz13_6 := blk_frozen BK196.out 6; have hfz13_7 := blk_frozen BK196.out 7; have hcz14_0 : w11.cell? ⟨gb197, 0, none⟩ = some (.int .i64 a1_0) := (blk_cell BK197.out 0).trans rfl; have hcz14_1 : w11.cell? ⟨gb197, 1, none⟩ = some (.string a1_1) := (blk_cell BK197.out 1).trans rfl; have hcz14_2 : w11.cell? ⟨gb197, 2, none⟩ = some (.int .i64 a1_2) := (blk_cell BK197.out 2).trans rfl; have hcz14_3 : w11.cell? ⟨gb197, 3, none⟩ = some (.int .i64 a1_3) := (blk_cell BK197.out 3).trans rfl; have hcz14_4 : w11.cell? ⟨gb197, 4, none⟩ = some (.bool a1_4) := (blk_cell BK197.out 4).trans rfl; have hcz14_5 : w11.cell? ⟨gb197, 5, none⟩ = some (.complex .f64 a1_5.re a1_5.im) := (blk_cell BK197.out 5).trans rfl; have hcz14_6 : w11.cell? ⟨gb197, 6, none⟩ = some (.string a1_6) := (blk_cell BK197.out 6).trans rfl; have hcz14_7 : w11.cell? ⟨gb197, 7, none⟩ = some (.bool false) := (blk_cell BK197.out 7).trans rfl; have hfz14_0 := blk_frozen BK197.out 0; have hfz14_1 := blk_frozen BK197.out 1; have hfz14_2 := blk_frozen BK197.out 2; have hfz14_3 := blk_frozen BK197.out 3; have hfz14_4 := blk_frozen BK197.out 4; have hfz14_5 := blk_frozen BK197.out 5; have hfz14_6 := blk_frozen BK197.out 6; have hfz14_7 := blk_frozen BK197.out 7))
   go_ret
   exact ⟨by first | rfl | (simp [errW_none, errW_some] <;> rfl) | (simp [*, errW_none, errW_some] <;> rfl), by repeat (first | (with_reducible first | exact HB.out | apply below_alloc | apply pw_below_drewN | apply below_drew1 | refine below_set ?_ GE196.out | refine below_set ?_ GE197.out) | exact HB.out)⟩
 ·rw [if_neg c3] at H
  have c3b0 : (a0_1.toList == a1_1.toList && (a0_2 == a1_2 && (a0_3 == a1_3))) = false := by simpa using c3
  (try (have c3b1 : decide (a0_1.toList = a1_1.toList && (a0_2 == a1_2 && (a0_3 == a1_3))) = false := by simpa using c3))
  (try (have c3b2 : (a0_1.toList == a1_1.toList && (a0_2 == a1_2 && (a0_3 == a1_3))) = false := by simpa using c3))
  (try (have c3b3 : ¬ (a0_1.toList = a1_1.toList && (a0_2 == a1_2 && (a0_3 == a1_3))) := by simpa using c3))
  clear c3
  replace H := Option.bind_eq_some_iff.mp H
  obtain ⟨t198, A150, H⟩ := H
  have A15 := Aside0.mk A150
  clear A150
  obtain rfl := Option.some.inj H
  go_enter Try.func38, Try.ntmps38
  go_wp2_with (first | ((with_reducible refine gate_dst (N := 2) rfl ?_); refine box_event ?hg (N := 2) ?hd (cs := #[.int .i64 a0_0, .string a0_1, .int .i64 a0_2, .int .i64 a0_3, .bool a0_4, .complex .f64 a0_5.re a0_5.im, .string a0_6, .bool a0_7]) (t := 41) ?hr ?_; (case hd => rfl); (case hg => rfl); (case hr => first | (go_simp; done) | (go_simp; rfl)); intro gb196 hg w16 hbox hb; have BK196 := Aside0.mk (hbox); have GW196 := Aside0.mk ((zq38_3 : w.heap.size ≤ gb196)); have GE196 := Aside0.mk ((zq38_3 : w.heap.size ≤ gb196)); replace HB := Aside0.mk (below_step zq38_5 hb); clear hb hbox hg) | ((with_reducible refine gate_dst (N := 3) rfl ?_); refine box_event ?hg (N := 3) ?hd (cs := #[.int .i64 a1_0, .string a1_1, .int .i64 a1_2, .int .i64 a1_3, .bool a1_4, .complex .f64 a1_5.re a1_5.im, .string a1_6, .bool a1_7]) (t := 41) ?hr ?_; (case hd => rfl); (case hg => rfl); (case hr => first | (go_simp; done) | (go_simp; rfl)); intro gb197 hg w17 hbox hb; have BK197 := Aside0.mk (hbox); have GW197 := Aside0.mk ((zq38_2 : w.heap.size ≤ gb197)); have GE197 := Aside0.mk ((zq38_2 : w.heap.size ≤ gb197)); replace HB := Aside0.mk (below_step zq38_4 hb); have NB196_197 := Aside0.mk ((zq38_0 : gb196 ≠ gb197)); have NB197_196 := Aside0.mk ((zq38_1 : gb197 ≠ gb196)); replace BK196 := Aside0.mk (blk_below (g := gb196) (o := .cells #[.int .i64 a0_0, .string a0_1, .int .i64 a0_2, .int .i64 a0_3, .bool a0_4, .complex .f64 a0_5.re a0_5.im, .string a0_6, .bool a0_7] 41 (0, 0)) zq38_6 hb); clear hb hbox hg; have hnb18 := NB196_197.out; have hnc18 := NB197_196.out; have hcz19_0 : w17.cell? ⟨gb196, 0, none⟩ = some (.int .i64 a0_0) := (blk_cell BK196.out 0).trans rfl; have hcz19_1 : w17.cell? ⟨gb196, 1, none⟩ = some (.string a0_1) := (blk_cell BK196.out 1).trans rfl; have hcz19_2 : w17.cell? ⟨gb196, 2, none⟩ = some (.int .i64 a0_2) := (blk_cell BK196.out 2).trans rfl; have hcz19_3 : w17.cell? ⟨gb196, 3, none⟩ = some (.int .i64 a0_3) := (blk_cell BK196.out 3).trans rfl; have hcz19_4 : w17.cell? ⟨gb196, 4, none⟩ = some (.bool a0_4) := (blk_cell BK196.out 4).trans rfl; have hcz19_5 : w17.cell? ⟨gb196, 5, none⟩ = some (.complex .f64 a0_5.re a0_5.im) := (blk_cell BK196.out 5).trans rfl; have hcz19_6 : w17.cell? ⟨gb196, 6, none⟩ = some (.string a0_6) := (blk_cell BK196.out 6).trans rfl; have hcz19_7 : w17.cell? ⟨gb196, 7, none⟩ = some (.bool a0_7) := (blk_cell BK196.out 7).trans rfl; have hfz19_0 := blk_frozen BK196.out 0; have hfz19_1 := blk_frozen BK196.out 1; have hfz19_2 := blk_frozen BK196.out 2; have hfz19_3 := blk_frozen BK196.out 3; have hfz19_4 := blk_frozen BK196.out 4; have hfz19_5 := blk_frozen BK196.out 5; have hfz19_6 := blk_frozen BK196.out 6; have hfz19_7 := blk_frozen BK196.out 7; have hcz20_0 : w17.cell? ⟨gb197, 0, none⟩ = some (.int .i64 a1_0) := (blk_cell BK197.out 0).trans rfl; have hcz20_1 : w17.cell? ⟨gb197, 1, none⟩ = some (.string a1_1) := (blk_cell BK197.out 1).trans rfl; have hcz20_2 : w17.cell? ⟨gb197, 2, none⟩ = some (.int .i64 a1_2) := (blk_cell BK197.out 2).trans rfl; have hcz20_3 : w17.cell? ⟨gb197, 3, none⟩ = some (.int .i64 a1_3) := (blk_cell BK197.out 3).trans rfl; have hcz20_4 : w17.cell? ⟨gb197, 4, none⟩ = some (.bool a1_4) := (blk_cell BK197.out 4).trans rfl; have hcz20_5 : w17.cell? ⟨gb197, 5, none⟩ = some (.complex .f64 a1_5.re a1_5.im) := (blk_cell BK197.out 5).trans rfl; have hcz20_6 : w17.cell? ⟨gb197, 6, none⟩ = some (.string a1_6) := (blk_cell BK197.out 6).trans rfl; have hcz20_7 : w17.cell? ⟨gb197, 7, none⟩ = some (.bool a1_7) := (blk_cell BK197.out 7).trans rfl; have hfz20_0 := blk_frozen BK197.out 0; have hfz20_1 := blk_frozen BK197.out 1; have hfz20_2 := blk_frozen BK197.out 2; have hfz20_3 := blk_frozen BK197.out 3; have hfz20_4 := blk_frozen BK197.out 4; have hfz20_5 := blk_frozen BK197.out 5; have hfz20_6 := blk_frozen BK197.out 6; have hfz20_7 := blk_frozen BK197.out 7) | ((with_reducible refine gate_callee (f := 53) rfl ?_); refine goesL_ (some 21) rfl rfl Try.func53 (by kernel_rfl) rfl #[.agg #[.string a0_1, .int .i64 a0_2, .int .i64 a0_3], .agg #[.string a1_1, .int .i64 a1_2, .int .i64 a1_3]] rfl (by (try simp only [List.map_toArray, List.map_cons, List.map_nil]); first | done | rfl | (simp only [List.length_drop, List.length_take]; rfl)) ?_; (with_reducible refine (item_Newer.calls a0_1 a0_2 a0_3 a1_1 a1_2 a1_3 t198 _ A15.out).mono ?_); rintro e w21 ⟨rfl, hb⟩; refine ⟨_, rfl, ?_⟩; replace BK196 := Aside0.mk (blk_below (g := gb196) (o := .cells #[.int .i64 a0_0, .string a0_1, .int .i64 a0_2, .int .i64 a0_3, .bool a0_4, .complex .f64 a0_5.re a0_5.im, .string a0_6, .bool a0_7] 41 (0, 0)) zq38_6 hb); replace BK197 := Aside0.mk (blk_below (g := gb197) (o := .cells #[.int .i64 a1_0, .string a1_1, .int .i64 a1_2, .int .i64 a1_3, .bool a1_4, .complex .f64 a1_5.re a1_5.im, .string a1_6, .bool a1_7] 41 (0, 0)) (by (with_reducible repeat (first | refine blk_drewN ?_ _ | refine blk_drew ?_ | refine blk_alloc ?_ _)); exact BK197.out) hb); replace HB := Aside0.mk (below_step (by repeat (first | (with_reducible first | exact HB.out | apply below_alloc | apply pw_below_drewN | apply below_drew1 | refine below_set ?_ GE196.out | refine below_set ?_ GE197.out) | exact HB.out)) hb); (try clear hb); (try clear hb2); (try clear hk); (try clear hi)))
  go_ret
  exact ⟨by first | rfl | (simp [errW_none, errW_some] <;> rfl) | (simp [*, errW_none, errW_some] <;> rfl), by repeat (first | (with_reducible first | exact HB.out | apply below_alloc | apply pw_below_drewN | apply below_drew1 | refine below_set ?_ GE196.out | refine below_set ?_ GE197.out) | exact HB.out)⟩

/-! ### store_Put: function 11 -/
theorem sts_hov (w : World) (vb b off lb cb m vc : Nat) (tA tB : TypeId) (kA kB : Nat) (hvb : vb ≠ b) (hsa : w.shape? vb = some (tA, kA)) (hsb : w.shape? b = some (tB, kB)) (hkB : kB ≠ 0) (hfa : w.frozen? ⟨vb, 0, none⟩ = false) (hfe : w.frozen? ⟨vb, kA, none⟩ = false) :
  (callFunc 60 #[.slice (some ⟨vb, 0, none⟩) m vc, .slice (some ⟨b, off, none⟩) lb cb]).run Try.prog w = .ok (.value (.bool false)) w := by
 rw [run_callFunc_extern Try.func60 (by kernel_rfl) (by kernel_rfl) (by kernel_rfl) (e := Extern.SlicesOverlaps.overlaps #[31, 31] #[4]) (by kernel_rfl),
  Lib.run_overlaps_apart w 31 4 41 Try.underlying31 8 (fun w => by obtain ⟨i0, hi, h0, h1, h2⟩ := info_parts info41; simp [sizeOf, typeInfo, hi, h1]) ⟨vb, 0, none⟩ ⟨b, off, none⟩ m vc lb cb hvb tA tB kA kB hsa hsb hkB hfa hfe]
 rfl
set_option maxHeartbeats 4000000 in
set_option maxRecDepth 100000 in
theorem sts_insert_room (w : World) (base : Nat) (ok okp : Nat → Prop) (g cap : Nat) (cur : Array Value) (l : List S41) (i : Nat) (x : S41) (cs : List Value) (vb : Nat) (tv : TypeId)
  (hg : base ≤ g) (hk : ok g) (hh : w.heap[g]? = some (.cells cur 41 (0, 0))) (hc : l.length + 1 ≤ cap) (h3 : cap ≤ maxLen) (h4 : cur.size = cap * 8) (hp : Reps (Kd.M k41 w base (fun k => ok k ∧ k ≠ g)) 8 l (cur.toList.take (l.length * 8)))
  (hi : i < l.length) (hx : Kd.M k41 w base okp x cs) (hokp : ∀ k, okp k → ok k ∧ k ≠ g) (hv : w.heap[vb]? = some (.cells cs.toArray tv (0, 0))) (hvb : vb ≠ g) :
  Calls Try.prog 37 #[.slice (some ⟨g, 0, none⟩) l.length cap, .int .i64 i, .slice (some ⟨vb, 0, none⟩) 1 1] w fun e w' => ∃ v' : Value, e = .returned v' ∧ Kd.R k41 41 w' base ok v' (l.take i ++ x :: l.drop i) ∧ w.grownBy w' (some g) := by
 obtain ⟨i0, hi0, hz0, hsz0, hby0⟩ := info_parts info41
 have hR : Kd.R k41 41 ((w.drew.setCells g ((i + 1) * 8) ((cur.toList.take (l.length * 8)).drop (i * 8))).setCells g (i * 8) cs) base ok (.slice (some ⟨g, 0, none⟩) (l.length + 1) cap) (l.take i ++ x :: l.drop i) ∧ w.grownBy ((w.drew.setCells g ((i + 1) * 8) ((cur.toList.take (l.length * 8)).drop (i * 8))).setCells g (i * 8) cs) (some g) := R_insert_room (d := k41) (e := 41) hg hk hh hc h3 h4 hp (Nat.le_of_lt hi) hx hokp 1
 have hcl : cs.length = 8 := (Kd.K_len k41 (Kd.K_of_M k41 hx))
 have h1v : ∀ u ∈ cs, u.oneCell' = true := Kd.K_one k41 (Kd.K_of_M k41 hx)
 have h1c := cells_one (d := k41) hp (by decide : 0 < 8)
 have hil : (cur.toList.take (l.length * 8)).length = l.length * 8 := hp.1
 generalize hinner : cur.toList.take (l.length * 8) = inner at hR h1c hil
 have hM : maxLen = 9223372036854775807 := rfl
 have hm0 : cap ≤ 9223372036854775807 := by rw [← hM]; exact h3
 have hcell : ∀ j u, inner[j]? = some u → w.cell? ⟨g, j, none⟩ = some u := fun j u hj => by
  rw [blk_cell hh j, ← Array.getElem?_toList]
  rw [← hinner, List.getElem?_take] at hj
  split at hj
  ·exact hj
  ·cases hj
 have hsp : ∀ j, j < cap * 8 → (w.cell? ⟨g, j, none⟩).isSome = true := fun j hj => by
  rw [blk_cell hh j, Array.getElem?_eq_getElem (by omega)]; rfl
 have hfz : ∀ j, w.frozen? ⟨g, j, none⟩ = false := fun j => blk_frozen hh j
 have hvs : ∀ j u, cs[j]? = some u → w.cell? ⟨vb, j, none⟩ = some u := fun j u hj => by
  rw [blk_cell hv j]; simpa using hj
 have hsa : w.shape? vb = some (tv, cs.length) := by simp [World.shape?, hv]
 have hsb : w.shape? g = some (41, cap * 8) := by simp [World.shape?, hh, h4]
 have hov : ∀ W lb cb, (∀ k, W.heap[k]? = w.heap[k]?) → (callFunc 60 #[.slice (some ⟨vb, 0, none⟩) 1 1, .slice (some ⟨g, (i + 1) * 8, none⟩) lb cb]).run Try.prog W = .ok (.value (.bool false)) W := fun W lb cb hW =>
  sts_hov W vb g ((i + 1) * 8) lb cb 1 1 tv 41 cs.length (cap * 8) hvb (by unfold World.shape? at hsa ⊢; rw [hW]; exact hsa) (by unfold World.shape? at hsb ⊢; rw [hW]; exact hsb) (by omega) (by unfold World.frozen?; simp [hW, hv]) (by unfold World.frozen?; simp [hW, hv])
 have hdl : (inner.drop (i * 8)).length = (l.length - i) * 8 := by rw [List.length_drop, hil, Nat.sub_mul]
 have hsz : (Try.prog.info? 41).map (·.size) = some 8 := by rw [hi0]; simp [hsz0]
 have hcp1 : ∀ (W : World), (∀ a, W.cell? a = w.cell? a) → (∀ a, W.frozen? a = w.frozen? a) → ∀ ty dc sc, (Builtin.copy_ #[33, 33] ty #[.slice (some ⟨g, (i + 1) * 8, none⟩) (l.length - i) dc, .slice (some ⟨g, i * 8, none⟩) (l.length + 1 - i) sc]).run Try.prog W = .ok (goInt (l.length - i : Nat)) (W.setCells g ((i + 1) * 8) (inner.drop (i * 8))) := fun W hW hF ty dc sc => by
  have := run_copy_k (P := Try.prog) W 33 33 ty 41 8 g ((i + 1) * 8) (l.length - i) dc ⟨g, i * 8, none⟩ (l.length + 1 - i) sc (inner.drop (i * 8)) Try.underlying33 hsz (by rw [hdl]; congr 1; simp only [Nat.min_def]; split <;> omega)
   (fun j u hj => by rw [Addr.add_lit, hW]; exact hcell _ u (by rwa [List.getElem?_drop] at hj))
   (fun j hj => by rw [hW]; exact hsp _ (by omega)) (fun j hj => by rw [hF]; exact hfz _) (fun u hu => h1c u (List.mem_of_mem_drop hu))
  rw [this]
  congr 2
  simp only [Nat.min_def]; split <;> omega
 have hcp2 : ∀ (W : World), (∀ a, W.cell? a = (w.setCells g ((i + 1) * 8) (inner.drop (i * 8))).cell? a) → (∀ a, W.frozen? a = w.frozen? a) → ∀ ty dc sc, (Builtin.copy_ #[33, 31] ty #[.slice (some ⟨g, i * 8, none⟩) (l.length + 1 - i) dc, .slice (some ⟨vb, 0, none⟩) 1 sc]).run Try.prog W = .ok (goInt (1 : Nat)) (W.setCells g (i * 8) cs) := fun W hW hF ty dc sc => by
  have := run_copy_k (P := Try.prog) W 33 31 ty 41 8 g (i * 8) (l.length + 1 - i) dc ⟨vb, 0, none⟩ 1 sc cs Try.underlying33 hsz (by rw [hcl]; simp only [Nat.min_def]; split <;> omega)
   (fun j u hj => by rw [Addr.add_lit, Nat.zero_add, hW, World.cell?_setCells_out _ _ _ _ _ (fun h _ => absurd h hvb)]; exact hvs _ u hj)
   (fun j hj => by
    rw [hW]
    by_cases hin : (i + 1) * 8 ≤ i * 8 + j
    ·omega
    ·rw [World.cell?_setCells_out _ _ _ _ _ (fun _ _ => Or.inl (by show i * 8 + j < (i + 1) * 8; omega))]
     exact hsp _ (by omega))
   (fun j hj => by rw [hF]; exact hfz _) h1v
  rw [this]
  congr 2
  simp only [Nat.min_def]; split <;> omega
 have e1 : ((i : Int) + 1) = ((i + 1 : Nat) : Int) := by omega
 have hw1 : IntKind.i64.wrap ((i : Int) + 1) = (i : Int) + 1 := by rw [IntKind.wrap_i64]; omega
 have hw2 : IntKind.i64.wrap ((l.length : Int) + 1) = (l.length : Int) + 1 := by rw [IntKind.wrap_i64]; omega
 have c1 := cut_from (P := Try.prog) 33 41 .i64 Try.underlying33 hi0 8 hsz0 (some ⟨g, 0, none⟩) l.length cap (i : Int) (by omega) (by omega)
 have c2 : ∀ W : World, (Instr.slice 33 (.slice (some ⟨g, 0, none⟩) l.length cap) none (some (.int .i64 ((l.length : Int) + 1))) none).run Try.prog W = .ok (.slice (some ⟨g, 0, none⟩) (l.length + 1) cap) W := by
  intro W
  have hel : (Try.prog).elem 33 = 41 := by simp [Program.elem, Try.underlying33]
  rw [run_slice_h W 33 (some ⟨g, 0, none⟩) l.length cap (by rw [hel]; exact Try.underlying33) .i64 ((l.length : Int) + 1) (by omega) (by omega), hel]
  simp [sizeOf, typeInfo, hi0, sliced, Result.andThen, Addr.add]
 have c3 : ∀ W : World, (Instr.slice 33 (.slice (some ⟨g, 0, none⟩) (l.length + 1) cap) (some (.int .i64 ((i : Int) + 1))) none none).run Try.prog W = .ok (.slice (some ⟨g, (i + 1) * 8, none⟩) (l.length - i) (cap - (i + 1))) W := by
  intro W
  rw [e1, cut_from (P := Try.prog) 33 41 .i64 Try.underlying33 hi0 8 hsz0 (some ⟨g, 0, none⟩) (l.length + 1) cap ((i + 1 : Nat) : Int) (by omega) (by omega) W, Int.toNat_natCast, if_neg (by omega), Option.map_some, Addr.add_lit, Nat.zero_add, show l.length + 1 - (i + 1) = l.length - i by omega]
 have c4 : ∀ W : World, (Instr.slice 33 (.slice (some ⟨g, 0, none⟩) (l.length + 1) cap) (some (.int .i64 (i : Int))) none none).run Try.prog W = .ok (.slice (some ⟨g, i * 8, none⟩) (l.length + 1 - i) (cap - i)) W := by
  intro W
  rw [cut_from (P := Try.prog) 33 41 .i64 Try.underlying33 hi0 8 hsz0 (some ⟨g, 0, none⟩) (l.length + 1) cap (i : Int) (by omega) (by omega) W, Int.toNat_natCast, if_neg (by omega), Option.map_some, Addr.add_lit, Nat.zero_add]
 have hb1 : decide ((1 : Int) = 0) = false := rfl
 have hb2 : decide ((i : Int) = (l.length : Int)) = false := by simp; omega
 have hb3 : decide ((cap : Int) < (l.length : Int) + 1) = false := by simp; omega
 have hovw := fun lb cb => hov w lb cb (fun _ => rfl)
 have HR := Aside0.mk hR
 clear hR hov e1
 go_enter Try.func37, Try.ntmps37
 go_wp2_with (simp only [hovw])
 have hc1 := hcp1 w.drew (fun _ => rfl) (fun _ => rfl) 3 (cap - (i + 1)) (cap - i)
 have hc2 := hcp2 (w.drew.setCells g ((i + 1) * 8) (inner.drop (i * 8))) (fun _ => by rw [← drew_setCells]; rfl) (fun _ => World.frozen?_setCells _ _ _ _ _) 3 (cap - i) 1
 have mixed : (Try.prog).follows .mixedOrders = true := rfl
 go_region_law_o (refine step_copy_runI rfl _ _ 33 33 rfl (.slice (some ⟨g, (i + 1) * 8, none⟩) (l.length - i) (cap - (i + 1))) (.slice (some ⟨g, i * 8, none⟩) (l.length + 1 - i) (cap - i)) (by simp [Act.eval, Act.put]) (by simp [Act.eval, Act.put]) hc1 ?_)
 clear hc1
 go_wp2_with (at_builtin; refine wpList_copy_runI _ rfl _ _ 33 31 rfl _ _ rfl rfl hc2 ?_)
 go_ret
 exact ⟨_, rfl, HR.out.1, HR.out.2⟩
set_option maxHeartbeats 4000000 in
set_option maxRecDepth 100000 in
theorem sts_insert_grow (w : World) (base : Nat) (ok okp : Nat → Prop) (g cap : Nat) (cur : Array Value) (l : List S41) (i : Nat) (x : S41) (cs : List Value) (vb : Nat) (tv : TypeId)
  (hbase : base ≤ w.heap.size) (hfresh : ∀ k, w.heap.size ≤ k → ok k) (hh : w.heap[g]? = some (.cells cur 41 (0, 0))) (hnc : l.length ≤ cap) (hc : cap < l.length + 1) (h4 : cur.size = cap * 8) (hp : Reps (Kd.M k41 w base (fun k => ok k ∧ k ≠ g)) 8 l (cur.toList.take (l.length * 8)))
  (hi : i < l.length) (hx : Kd.M k41 w base okp x cs) (hokp : ∀ k, okp k → ok k ∧ k ≠ g) (hv : w.heap[vb]? = some (.cells cs.toArray tv (0, 0))) (hvb : vb ≠ g) (hbig : (l.length + 1) * 88 ≤ 140737488355328) :
  Calls Try.prog 37 #[.slice (some ⟨g, 0, none⟩) l.length cap, .int .i64 i, .slice (some ⟨vb, 0, none⟩) 1 1] w fun e w' => ∃ v' : Value, e = .returned v' ∧ Kd.R k41 41 w' base ok v' (l.take i ++ x :: l.drop i) ∧ w.grownBy w' none := by
 obtain ⟨i0, hi0, hz0, hsz0, hby0⟩ := info_parts info41
 have hcl : cs.length = 8 := (Kd.K_len k41 (Kd.K_of_M k41 hx))
 have h1v : ∀ u ∈ cs, u.oneCell' = true := Kd.K_one k41 (Kd.K_of_M k41 hx)
 have h1c := cells_one (d := k41) hp (by decide : 0 < 8)
 have hil : (cur.toList.take (l.length * 8)).length = l.length * 8 := hp.1
 generalize hinner : cur.toList.take (l.length * 8) = inner at hp h1c hil
 have hcell : ∀ j u, inner[j]? = some u → w.cell? ⟨g, j, none⟩ = some u := fun j u hj => by
  rw [blk_cell hh j, ← Array.getElem?_toList]
  rw [← hinner, List.getElem?_take] at hj
  split at hj
  ·exact hj
  ·cases hj
 have hvs : ∀ j u, cs[j]? = some u → w.cell? ⟨vb, j, none⟩ = some u := fun j u hj => by
  rw [blk_cell hv j]; simpa using hj
 have hgw : g < w.heap.size := blk_lt hh
 have hvw : vb < w.heap.size := blk_lt hv
 have hsz : (Try.prog.info? 41).map (·.size) = some 8 := by rw [hi0]; simp [hsz0]
 have hdl : (inner.drop (i * 8)).length = (l.length - i) * 8 := by rw [List.length_drop, hil, Nat.sub_mul]
 have hik : i + (l.length + 1 - i) = l.length + 1 := by omega
 have hkk : (l.length : Int) + 1 - (i : Int) = ((l.length + 1 - i : Nat) : Int) := by omega
 have hold : (Builtin.firstCells i0.size i (.slice (some ⟨g, 0, none⟩) i cap)).run Try.prog w.drew = .ok (inner.take (i * 8)).toArray w.drew := by
  rw [hsz0]
  exact run_firstCells_some w.drew 8 i ⟨g, 0, none⟩ i cap (inner.take (i * 8)) (by rw [List.length_take, hil]; omega) (fun j v hj => by
   rw [Addr.add_lit, Nat.zero_add]
   rw [List.getElem?_take] at hj
   split at hj
   ·exact hcell j v hj
   ·cases hj)
 have hrz := Lib.run_append_grow_zeros (P := Try.prog) w 33 3 33 41 i0 _ .i64 .i64 Try.underlying33 Try.underlying3 hi0 hz0 (some ⟨g, 0, none⟩) i cap (inner.take (i * 8)) hold (l.length + 1 - i) (by omega) (by omega) (by omega) (by omega) (by rw [hby0]; omega) (by rw [hby0, hik]; exact growslice_fits hc hbig)
 rw [hik, ← hkk] at hrz
 have hGn : l.length + 1 ≤ grownCap w (l.length + 1) cap 41 := grownCap_ge w _ _ _
 have hG63 : grownCap w (l.length + 1) cap 41 ≤ maxLen := grownCap_le_maxLen w (l.length + 1) cap 41 (by unfold maxLen; omega)
 generalize grownCap w (l.length + 1) cap 41 = G at hrz hGn hG63
 generalize hROW : (inner.take (i * 8)).toArray ++ Builtin.zeroCells _ (l.length + 1 - i) ++ Builtin.zeroCells _ (G - (l.length + 1)) = ROW at hrz
 have hRl : ROW.size = G * 8 := by
  rw [← hROW]
  simp [Builtin.zeroCells, Value.cells, hil]
  omega
 have hrow : ROW.toList.take (i * 8) = inner.take (i * 8) := by
  rw [← hROW]
  simp only [Array.toList_append, List.append_assoc]
  rw [List.take_append_of_le_length (by rw [List.length_take, hil]; omega), List.take_take, Nat.min_self]
 have hR : Kd.R k41 41 (((w.alloc (.cells ROW 41)).drew.setCells w.heap.size (i * 8) cs).drew.setCells w.heap.size ((i + 1) * 8) (inner.drop (i * 8))) base ok (.slice (some ⟨w.heap.size, 0, none⟩) (l.length + 1) G) (l.take i ++ x :: l.drop i) ∧ w.grownBy (((w.alloc (.cells ROW 41)).drew.setCells w.heap.size (i * 8) cs).drew.setCells w.heap.size ((i + 1) * 8) (inner.drop (i * 8))) none :=
  R_insert_grow (d := k41) (e := 41) hbase hfresh hGn hG63 hRl (hp.imp_ fun _ _ hq => Kd.M_mono k41 (fun k hk => hk.1) hq) hrow (Nat.le_of_lt hi) (Kd.M_mono k41 (fun k hk => (hokp k hk).1) hx) 1 1
 have HR := Aside0.mk hR
 clear hR hROW hrow hp hx hokp hold
 obtain ⟨W1, hW1⟩ : ∃ W1, W1 = (w.alloc (.cells ROW 41)).drew := ⟨_, rfl⟩
 have hN : ∀ j, j < (l.length + 1) * 8 → (W1.cell? ⟨w.heap.size, j, none⟩).isSome = true := fun j hj => by
  rw [hW1]
  show ((w.alloc (.cells ROW 41)).cell? ⟨w.heap.size, j, none⟩).isSome = true
  rw [blk_cell (blk_new w (.cells ROW 41)) j, Array.getElem?_eq_getElem (by omega)]; rfl
 have hNf : ∀ j, W1.frozen? ⟨w.heap.size, j, none⟩ = false := fun j => by rw [hW1]; exact blk_frozen (blk_new w (.cells ROW 41)) j
 have hOb : ∀ j u, w.cell? ⟨g, j, none⟩ = some u → W1.cell? ⟨g, j, none⟩ = some u := fun j u h => by
  rw [hW1]; exact (((Below.refl w.heap.size w).alloc (Nat.le_refl _) (.cells ROW 41)).cell (p := ⟨g, j, none⟩) hgw).trans h
 have hOv : ∀ j u, w.cell? ⟨vb, j, none⟩ = some u → W1.cell? ⟨vb, j, none⟩ = some u := fun j u h => by
  rw [hW1]; exact (((Below.refl w.heap.size w).alloc (Nat.le_refl _) (.cells ROW 41)).cell (p := ⟨vb, j, none⟩) hvw).trans h
 have hcpA : ∀ (W : World), (∀ a, W.cell? a = W1.cell? a) → (∀ a, W.frozen? a = W1.frozen? a) → ∀ ty dc sc, (Builtin.copy_ #[33, 31] ty #[.slice (some ⟨w.heap.size, i * 8, none⟩) (l.length + 1 - i) dc, .slice (some ⟨vb, 0, none⟩) 1 sc]).run Try.prog W = .ok (goInt (1 : Nat)) (W.setCells w.heap.size (i * 8) cs) := fun W hW hF ty dc sc => by
  have := run_copy_k (P := Try.prog) W 33 31 ty 41 8 w.heap.size (i * 8) (l.length + 1 - i) dc ⟨vb, 0, none⟩ 1 sc cs Try.underlying33 hsz (by rw [hcl]; simp only [Nat.min_def]; split <;> omega)
   (fun j u hj => by rw [Addr.add_lit, Nat.zero_add, hW]; exact hOv _ u (hvs _ u hj))
   (fun j hj => by rw [hW]; exact hN _ (by omega)) (fun j hj => by rw [hF]; exact hNf _) h1v
  rw [this]
  congr 2
  simp only [Nat.min_def]; split <;> omega
 have hgN : g ≠ w.heap.size := by omega
 have hcpB : ∀ (W : World), (∀ a, W.cell? a = (W1.setCells w.heap.size (i * 8) cs).cell? a) → (∀ a, W.frozen? a = W1.frozen? a) → ∀ ty dc sc, (Builtin.copy_ #[33, 33] ty #[.slice (some ⟨w.heap.size, (i + 1) * 8, none⟩) (l.length - i) dc, .slice (some ⟨g, i * 8, none⟩) (l.length - i) sc]).run Try.prog W = .ok (goInt (l.length - i : Nat)) (W.setCells w.heap.size ((i + 1) * 8) (inner.drop (i * 8))) := fun W hW hF ty dc sc => by
  have := run_copy_k (P := Try.prog) W 33 33 ty 41 8 w.heap.size ((i + 1) * 8) (l.length - i) dc ⟨g, i * 8, none⟩ (l.length - i) sc (inner.drop (i * 8)) Try.underlying33 hsz (by rw [hdl]; simp)
   (fun j u hj => by
    rw [Addr.add_lit, hW, World.cell?_setCells_out _ _ _ _ _ (fun h _ => absurd h hgN)]
    exact hOb _ u (hcell _ u (by rwa [List.getElem?_drop] at hj)))
   (fun j hj => by rw [hW]; exact isSome_setCells _ _ _ _ (fun t ht => hN _ (by omega)) _ (hN _ (by omega)))
   (fun j hj => by rw [hF]; exact hNf _) (fun u hu => h1c u (List.mem_of_mem_drop hu))
  rw [this]
  congr 2
  simp
 have hw1 : IntKind.i64.wrap ((i : Int) + 1) = (i : Int) + 1 := by rw [IntKind.wrap_i64]; omega
 have hw2 : IntKind.i64.wrap ((l.length : Int) + 1) = (l.length : Int) + 1 := by rw [IntKind.wrap_i64]; omega
 have hw3 : IntKind.i64.wrap ((l.length : Int) + 1 - (i : Int)) = (l.length : Int) + 1 - (i : Int) := by rw [IntKind.wrap_i64]; omega
 have c1 : ∀ W : World, (Instr.slice 33 (.slice (some ⟨g, 0, none⟩) l.length cap) (some (.int .i64 (i : Int))) none none).run Try.prog W = .ok (.slice (some ⟨g, i * 8, none⟩) (l.length - i) (cap - i)) W := by
  intro W
  rw [cut_from (P := Try.prog) 33 41 .i64 Try.underlying33 hi0 8 hsz0 (some ⟨g, 0, none⟩) l.length cap (i : Int) (by omega) (by omega) W, Int.toNat_natCast, if_neg (by omega), Option.map_some, Addr.add_lit, Nat.zero_add]
 have c2 := cut_to (P := Try.prog) 33 41 .i64 Try.underlying33 hi0 (some ⟨g, 0, none⟩) l.length cap (i : Int) (by omega) (by omega) (by omega)
 rw [Int.toNat_natCast] at c2
 have c3 : ∀ W : World, (Instr.slice 33 (.slice (some ⟨w.heap.size, 0, none⟩) (l.length + 1) G) (some (.int .i64 (i : Int))) none none).run Try.prog W = .ok (.slice (some ⟨w.heap.size, i * 8, none⟩) (l.length + 1 - i) (G - i)) W := by
  intro W
  rw [cut_from (P := Try.prog) 33 41 .i64 Try.underlying33 hi0 8 hsz0 (some ⟨w.heap.size, 0, none⟩) (l.length + 1) G (i : Int) (by omega) (by omega) W, Int.toNat_natCast, if_neg (by omega), Option.map_some, Addr.add_lit, Nat.zero_add]
 have c4 : ∀ W : World, (Instr.slice 33 (.slice (some ⟨w.heap.size, 0, none⟩) (l.length + 1) G) (some (.int .i64 ((i : Int) + 1))) none none).run Try.prog W = .ok (.slice (some ⟨w.heap.size, (i + 1) * 8, none⟩) (l.length - i) (G - (i + 1))) W := by
  intro W
  rw [show ((i : Int) + 1) = ((i + 1 : Nat) : Int) by omega, cut_from (P := Try.prog) 33 41 .i64 Try.underlying33 hi0 8 hsz0 (some ⟨w.heap.size, 0, none⟩) (l.length + 1) G ((i + 1 : Nat) : Int) (by omega) (by omega) W, Int.toNat_natCast, if_neg (by omega), Option.map_some, Addr.add_lit, Nat.zero_add, show l.length + 1 - (i + 1) = l.length - i by omega]
 have hb1 : decide ((1 : Int) = 0) = false := rfl
 have hb2 : decide ((i : Int) = (l.length : Int)) = false := by simp; omega
 have hb3 : decide ((cap : Int) < (l.length : Int) + 1) = true := by simp; omega
 have ha := hcpA W1 (fun _ => rfl) (fun _ => rfl) 3 (G - i) 1
 have hb := hcpB ((W1.setCells w.heap.size (i * 8) cs).drew) (fun _ => rfl) (fun _ => World.frozen?_setCells _ _ _ _ _) 3 (G - (i + 1)) (cap - i)
 subst hW1
 have mixed : (Try.prog).follows .mixedOrders = true := rfl
 clear hcpA hcpB hOb hOv hN hNf hcell hvs h1c h1v hkk hik hdl hil hcl
 go_enter Try.func37, Try.ntmps37
 go_wp2_with (first
  | (at_builtin; refine Lib.wpList_append_run _ rfl _ _ _ _ rfl _ _ rfl rfl _ _ hrz ?_)
  | (at_builtin; refine wpList_copy_runI _ rfl _ _ 33 31 rfl _ _ rfl rfl ha ?_))
 go_region_law_o (refine step_copy_runI rfl _ _ 33 33 rfl (.slice (some ⟨w.heap.size, (i + 1) * 8, none⟩) (l.length - i) (G - (i + 1))) (.slice (some ⟨g, i * 8, none⟩) (l.length - i) (cap - i)) (by simp [Act.eval, Act.put]) (by simp [Act.eval, Act.put]) hb ?_)
 go_wp2
 go_ret
 exact ⟨_, rfl, HR.out.1, HR.out.2⟩
set_option maxHeartbeats 4000000 in
set_option maxRecDepth 100000 in
theorem sts_insert_end (w : World) (base : Nat) (ok okp : Nat → Prop) (A : Option Addr) (cap : Nat) (l : List S41) (x : S41) (cs : List Value) (vb : Nat) (tv : TypeId)
  (hbase : base ≤ w.heap.size) (hfresh : ∀ k, w.heap.size ≤ k → ok k) (ho : Kd.R k41 41 w base ok (.slice A l.length cap) l)
  (hx : Kd.M k41 w base okp x cs) (hokp : ∀ k, okp k → ok k ∧ some k ≠ (Value.slice A l.length cap).ownBlock) (hv : w.heap[vb]? = some (.cells cs.toArray tv (0, 0))) (hbig : (l.length + 1) * 88 ≤ 140737488355328) :
  Calls Try.prog 37 #[.slice A l.length cap, .int .i64 (l.length : Int), .slice (some ⟨vb, 0, none⟩) 1 1] w fun e w' => ∃ v' : Value, e = .returned v' ∧ Kd.R k41 41 w' base ok v' (l ++ [x]) ∧ Below base w w' ∧ w.grownBy w' (Value.slice A l.length cap).ownBlock := by
 obtain ⟨i0, hi0, hz0, hsz0, hby0⟩ := info_parts info41
 have hcl : cs.length = 8 := (Kd.K_len k41 (Kd.K_of_M k41 hx))
 obtain ⟨v1, w1, hrun, hR1, hg1⟩ := R_append_one_run (P := Try.prog) k41 33 31 33 41 41 i0 _ 88 Try.underlying33 Try.underlying31 hi0 hz0 hsz0 hby0 rfl (by decide) (by decide) ho hx hokp hfresh (a := ⟨vb, 0, none⟩) (fun j u hj => by rw [Addr.add_lit, Nat.zero_add, blk_cell hv]; simpa using hj) 1 hbase hbig
 have hB : Below base w w1 := (Below.refl base w).grown hg1 hbase (Kd.R_base ho)
 obtain ⟨cc, hcut⟩ : ∃ cc : Option Addr, ∀ W : World, (Instr.slice 33 (.slice A l.length cap) (some (.int .i64 (l.length : Int))) none none).run Try.prog W = .ok (.slice cc (l.length - l.length) (cap - l.length)) W := by
  exact ⟨_, cut_from (P := Try.prog) 33 41 .i64 Try.underlying33 hi0 8 hsz0 A l.length cap (l.length : Int) (by omega) (by omega)⟩
 rw [Nat.sub_self] at hcut
 have hb1 : decide ((1 : Int) = 0) = false := rfl
 have HR := Aside0.mk hR1
 have HB := Aside0.mk hB
 have HG := Aside0.mk hg1
 have HN := Aside0.mk hrun
 clear ho hx hokp hv hcl hR1 hB hg1 hrun hz0 hi0
 go_enter Try.func37, Try.ntmps37
 go_wp2_with (at_builtin; refine Lib.wpList_append_run _ rfl _ _ _ _ rfl _ _ rfl rfl _ _ HN.out ?_)
 go_ret
 exact ⟨_, rfl, HR.out, HB.out, HG.out⟩
theorem sts_insertk (w : World) (base : Nat) (ok okp : Nat → Prop) (v : Value) (l : List S41) (i : Nat) (x : S41) (cs : List Value) (vb : Nat) (tv : TypeId)
  (ho : Kd.R k41 41 w base ok v l) (hi : i ≤ l.length) (hbase : base ≤ w.heap.size) (hfresh : ∀ k, w.heap.size ≤ k → ok k) (hx : Kd.M k41 w base okp x cs) (hokp : ∀ k, okp k → ok k ∧ some k ≠ v.ownBlock) (hv : w.heap[vb]? = some (.cells cs.toArray tv (0, 0))) (hvb : some vb ≠ v.ownBlock) (hbig : (l.length + 1) * 88 ≤ 140737488355328) :
  Calls Try.prog 37 #[v, .int .i64 i, .slice (some ⟨vb, 0, none⟩) 1 1] w fun e w' => ∃ v' : Value, e = .returned v' ∧ Kd.R k41 41 w' base ok v' (l.take i ++ x :: l.drop i) ∧ Below base w w' ∧ ∀ k, k < w.heap.size → some k ≠ v.ownBlock → w'.heap[k]? = w.heap[k]? := by
 by_cases he : i = l.length
 ·obtain ⟨A, c, rfl⟩ := Kd.R_slice ho
  subst he
  rw [List.take_of_length_le (Nat.le_refl _), List.drop_of_length_le (Nat.le_refl _)]
  refine (sts_insert_end w base ok okp A c l x cs vb tv hbase hfresh ho hx hokp hv hbig).mono ?_
  rintro e w' ⟨v', rfl, hR, hB, hG⟩
  exact ⟨v', rfl, hR, hB, fun k hk hne => hG.block k hk hne⟩
 ·have hlt : i < l.length := by omega
  obtain ⟨g, cap, cur, rfl, hg, hk, hh, h2, h3, h4, hp⟩ := R_open ho (fun e => by rw [e] at hlt; simp at hlt)
  have hokp' : ∀ k, okp k → ok k ∧ k ≠ g := fun k hk => ⟨(hokp k hk).1, fun e => (hokp k hk).2 (by rw [e]; rfl)⟩
  have hvb' : vb ≠ g := fun e => hvb (by rw [e]; rfl)
  by_cases hc : l.length + 1 ≤ cap
  ·refine (sts_insert_room w base ok okp g cap cur l i x cs vb tv hg hk hh hc h3 h4 hp hlt hx hokp' hv hvb').mono ?_
   rintro e w' ⟨v', rfl, hR, hG⟩
   exact ⟨v', rfl, hR, (Below.refl base w).grown hG hbase (fun k e => by injection e with e; omega), fun k hk hne => hG.block k hk hne⟩
  ·refine (sts_insert_grow w base ok okp g cap cur l i x cs vb tv hbase hfresh hh h2 (by omega) h4 hp hlt hx hokp' hv hvb' hbig).mono ?_
   rintro e w' ⟨v', rfl, hR, hG⟩
   exact ⟨v', rfl, hR, (Below.refl base w).grown hG hbase (fun k e => by cases e), fun k hk _ => hG.block k hk (by simp)⟩
theorem sts_insert (w : World) (base : Nat) (ok okp : Nat → Prop) (v : Value) (l : List S41) (i : Nat) (x : S41) (cs : List Value) (vb : Nat) (tv : TypeId)
  (ho : Kd.R k41 41 w base ok v l) (hi : i ≤ l.length) (hbase : base ≤ w.heap.size) (hfresh : ∀ k, w.heap.size ≤ k → ok k) (hx : Kd.M k41 w base okp x cs) (hokp : ∀ k, okp k → ok k ∧ some k ≠ v.ownBlock) (hv : w.heap[vb]? = some (.cells cs.toArray tv (0, 0))) (hvb : some vb ≠ v.ownBlock) (hbig : (l.length + 1) * 88 ≤ 140737488355328) :
  Calls Try.prog 37 #[v, .int .i64 i, .slice (some ⟨vb, 0, none⟩) 1 1] w fun e w' => ∃ v' : Value, e = .returned v' ∧ Kd.R k41 41 w' base ok v' (l.take i ++ x :: l.drop i) ∧ Below base w w' :=
 (sts_insertk w base ok okp v l i x cs vb tv ho hi hbase hfresh hx hokp hv hvb hbig).mono fun e w' h => by
  obtain ⟨v', h1, h2, h3, -⟩ := h
  exact ⟨v', h1, h2, h3⟩

attribute [local go_sem] run_store_complex
theorem sN_le (l : List S41) (a : Int) : sN l a ≤ l.length := bsI_le _ _ _ _ (Nat.zero_le _)
theorem sN_lt {l : List S41} {a : Int} (h : sB l a = true) : sN l a < l.length := by
 unfold sB bsB at h
 rw [Bool.and_eq_true, decide_eq_true_eq] at h
 exact h.1
theorem cloneI (A0 : Option Addr) (c0 : Nat) (l0 : List S41) (W : World) (hr0 : Kd.C k41 W A0 l0.length l0) (hc0 : l0.length ≤ c0) (hl : l0.length < 1000000000) :
  Calls Try.prog 35 #[.slice A0 l0.length c0] W fun e w' => ∃ v0_ : Value, e = .returned (v0_) ∧ Kd.R k41 41 w' W.heap.size (fun _ => True) v0_ l0 ∧ Below W.heap.size W w' :=
 item_Item_35.calls A0 c0 l0 l0 W hr0 hc0 (by simp only [item_Item_35.f, Option.bind_some, List.length_nil, List.nil_append]; rw [if_pos (by omega)])
def store_Put.f (l0 : List S41) (a1_0 : Int) (a1_1 : ByteArray) (a1_2 : Int) (a1_3 : Int) (a1_4 : Bool) (a1_5 : Cx) (a1_6 : ByteArray) (a1_7 : Bool) : Option (List S41 × Bool) := if l0.length < 1000000000 then (if sB l0 a1_0 = true then (store_yields.f (l0.getD (sN l0 a1_0) z41).f0 (l0.getD (sN l0 a1_0) z41).f1.f0 (l0.getD (sN l0 a1_0) z41).f1.f1 (l0.getD (sN l0 a1_0) z41).f1.f2 (l0.getD (sN l0 a1_0) z41).f2 (l0.getD (sN l0 a1_0) z41).f3 (l0.getD (sN l0 a1_0) z41).f4 (l0.getD (sN l0 a1_0) z41).f5 a1_0 a1_1 a1_2 a1_3 a1_4 a1_5 a1_6 a1_7).bind fun y => if y = true then some (l0.set (sN l0 a1_0) ⟨a1_0, ⟨a1_1, a1_2, a1_3⟩, a1_4, a1_5, a1_6, a1_7⟩, true) else some (l0, false) else some (l0.take (sN l0 a1_0) ++ ⟨a1_0, ⟨a1_1, a1_2, a1_3⟩, a1_4, a1_5, a1_6, a1_7⟩ :: l0.drop (sN l0 a1_0), true)) else none
set_option maxHeartbeats 3200000 in
set_option maxRecDepth 100000 in
theorem store_Put.calls (A0 : Option Addr) (c0 : Nat) (l0 : List S41) (a1_0 : Int) (a1_1 : ByteArray) (a1_2 : Int) (a1_3 : Int) (a1_4 : Bool) (a1_5 : Cx) (a1_6 : ByteArray) (a1_7 : Bool) (r1 : List S41) (r2 : Bool) (w : World) (hr0 : Kd.C k41 w A0 l0.length l0) (hc0 : l0.length ≤ c0) (h : store_Put.f l0 a1_0 a1_1 a1_2 a1_3 a1_4 a1_5 a1_6 a1_7 = some (r1, r2)) :
  Calls Try.prog 11 #[.slice A0 l0.length c0, .agg #[.int .i64 a1_0, .string a1_1, .int .i64 a1_2, .int .i64 a1_3, .bool a1_4, .complex .f64 a1_5.re a1_5.im, .string a1_6, .bool a1_7]] w fun e w' => ∃ v0_ : Value, e = .returned (.tuple #[v0_, .bool r2]) ∧ Kd.R k41 41 w' w.heap.size (fun _ => True) v0_ r1 ∧ Below w.heap.size w w' := by
 unfold store_Put.f at h
 by_cases hlim : l0.length < 1000000000
 rotate_left
 ·rw [if_neg hlim] at h; cases h
 rw [if_pos hlim] at h
 have HH := Aside0.mk h
 have HCL := Aside0.mk (fun W (hW : Below w.heap.size w W) => cloneI A0 c0 l0 W (Kd.C_below hr0 hW) hc0 hlim)
 have HB := Aside0.mk (below_alloc (Below.refl w.heap.size w) (.cells #[.int .i64 a1_0, .string a1_1, .int .i64 a1_2, .int .i64 a1_3, .bool a1_4, .complex .f64 a1_5.re a1_5.im, .string a1_6, .bool a1_7] 41))
 have BK := Aside0.mk (blk_new w (.cells #[.int .i64 a1_0, .string a1_1, .int .i64 a1_2, .int .i64 a1_3, .bool a1_4, .complex .f64 a1_5.re a1_5.im, .string a1_6, .bool a1_7] 41))
 have hle := sN_le l0 a1_0
 have hfind : store_find.f l0 a1_0 = some (((sN l0 a1_0 : Nat) : Int), sB l0 a1_0) := by unfold store_find.f; rw [if_pos hlim]
 have HLT := Aside0.mk (fun h : sB l0 a1_0 = true => sN_lt h)
 generalize sN l0 a1_0 = i at *
 generalize sB l0 a1_0 = b at *
 have HFIND := Aside0.mk hfind
 have HLE := Aside0.mk hle
 have HLIM := Aside0.mk hlim
 clear h hr0 hc0 hlim hle hfind
 go_enter Try.func11, Try.ntmps11
 go_wp2_with fail
 refine (HCL.out _ HB.out).mono ?_
 rintro e w1 ⟨v1, rfl, ho1, hb1⟩
 obtain ⟨A1, c1, rfl, hc1, hr1⟩ := Kd.R_reads ho1
 have hsz : (w.alloc (.cells #[.int .i64 a1_0, .string a1_1, .int .i64 a1_2, .int .i64 a1_3, .bool a1_4, .complex .f64 a1_5.re a1_5.im, .string a1_6, .bool a1_7] 41)).heap.size = w.heap.size + 1 := by simp
 rw [hsz] at ho1
 have HO := Aside0.mk ho1
 have BK1 := Aside0.mk (blk_below BK.out hb1)
 have HZ := Aside0.mk (show w.heap.size + 1 ≤ w1.heap.size by rw [← hsz]; exact hb1.size)
 replace HB := Aside0.mk (below_step HB.out hb1)
 have HC1 := Aside0.mk hc1
 clear ho1 hb1 hc1 hr1 HCL hsz BK
 have hv0 : w1.cell? ⟨w.heap.size, 0, none⟩ = some (.int .i64 a1_0) := (blk_cell BK1.out 0).trans rfl
 have hv1 : w1.cell? ⟨w.heap.size, 1, none⟩ = some (.string a1_1) := (blk_cell BK1.out 1).trans rfl
 have hv2 : w1.cell? ⟨w.heap.size, 2, none⟩ = some (.int .i64 a1_2) := (blk_cell BK1.out 2).trans rfl
 have hv3 : w1.cell? ⟨w.heap.size, 3, none⟩ = some (.int .i64 a1_3) := (blk_cell BK1.out 3).trans rfl
 have hv4 : w1.cell? ⟨w.heap.size, 4, none⟩ = some (.bool a1_4) := (blk_cell BK1.out 4).trans rfl
 have hv5 : w1.cell? ⟨w.heap.size, 5, none⟩ = some (.complex .f64 a1_5.re a1_5.im) := (blk_cell BK1.out 5).trans rfl
 have hv6 : w1.cell? ⟨w.heap.size, 6, none⟩ = some (.string a1_6) := (blk_cell BK1.out 6).trans rfl
 have hv7 : w1.cell? ⟨w.heap.size, 7, none⟩ = some (.bool a1_7) := (blk_cell BK1.out 7).trans rfl
 go_wp2_with fail
 refine (store_find.calls A1 c1 l0 a1_0 (i : Int) b w1 (Kd.R_reads' HO.out).2.2 HC1.out HFIND.out).mono ?_
 rintro e w2 ⟨rfl, hb2⟩
 clear hv0 hv1 hv2 hv3 hv4 hv5 hv6 hv7
 replace HO := Aside0.mk (Kd.R_below HO.out hb2)
 replace BK1 := Aside0.mk (blk_below BK1.out hb2)
 replace HZ := Aside0.mk (show w.heap.size + 1 ≤ w2.heap.size from Nat.le_trans HZ.out hb2.size)
 replace HB := Aside0.mk (below_step HB.out hb2)
 clear hb2
 have hv0 : w2.cell? ⟨w.heap.size, 0, none⟩ = some (.int .i64 a1_0) := (blk_cell BK1.out 0).trans rfl
 have hv1 : w2.cell? ⟨w.heap.size, 1, none⟩ = some (.string a1_1) := (blk_cell BK1.out 1).trans rfl
 have hv2 : w2.cell? ⟨w.heap.size, 2, none⟩ = some (.int .i64 a1_2) := (blk_cell BK1.out 2).trans rfl
 have hv3 : w2.cell? ⟨w.heap.size, 3, none⟩ = some (.int .i64 a1_3) := (blk_cell BK1.out 3).trans rfl
 have hv4 : w2.cell? ⟨w.heap.size, 4, none⟩ = some (.bool a1_4) := (blk_cell BK1.out 4).trans rfl
 have hv5 : w2.cell? ⟨w.heap.size, 5, none⟩ = some (.complex .f64 a1_5.re a1_5.im) := (blk_cell BK1.out 5).trans rfl
 have hv6 : w2.cell? ⟨w.heap.size, 6, none⟩ = some (.string a1_6) := (blk_cell BK1.out 6).trans rfl
 have hv7 : w2.cell? ⟨w.heap.size, 7, none⟩ = some (.bool a1_7) := (blk_cell BK1.out 7).trans rfl
 cases b with
 | false =>
  have hrr : (l0.take i ++ ⟨a1_0, ⟨a1_1, a1_2, a1_3⟩, a1_4, a1_5, a1_6, a1_7⟩ :: l0.drop i, true) = (r1, r2) := by have := HH.out; rw [if_neg (by simp)] at this; exact Option.some.inj this
  obtain ⟨e1, e2⟩ := Prod.mk.inj hrr
  subst e1; subst e2
  clear hrr HH
  go_wp2_with fail
  refine (sts_insert _ (w.heap.size + 1) (fun _ => True) (fun _ => False) (.slice A1 l0.length c1) l0 i ⟨a1_0, ⟨a1_1, a1_2, a1_3⟩, a1_4, a1_5, a1_6, a1_7⟩ [.int .i64 a1_0, .string a1_1, .int .i64 a1_2, .int .i64 a1_3, .bool a1_4, .complex .f64 a1_5.re a1_5.im, .string a1_6, .bool a1_7] w2.heap.size _ (Kd.R_below HO.out (below_alloc (Below.refl _ _) _)) HLE.out ?_ (fun _ _ => trivial) (k41_mkM _ _ _ ⟨a1_0, ⟨a1_1, a1_2, a1_3⟩, a1_4, a1_5, a1_6, a1_7⟩) (fun _ h => h.elim) (blk_new w2 _) ?_ (by have := HLIM.out; omega)).mono ?_
  ·have := HZ.out; simp; omega
  ·intro e; have := Kd.R_lt HO.out _ e.symm; omega
  rintro e w4 ⟨v4, rfl, hR4, hB4⟩
  have HO4 := Aside0.mk (Kd.R_lower hR4 (Nat.le_succ _))
  have HB4 := Aside0.mk ((below_alloc HB.out _).trans ⟨hB4.os, hB4.tape, hB4.output, hB4.size, fun k hk => hB4.block k (by omega)⟩)
  clear hR4 hB4 hv0 hv1 hv2 hv3 hv4 hv5 hv6 hv7
  go_wp2_with fail
  go_ret2
  exact ⟨_, rfl, HO4.out, HB4.out⟩
 | true =>
  have hlt := HLT.out rfl
  have hy := HH.out
  rw [if_pos rfl] at hy
  obtain ⟨y, hy1, hy2⟩ := Option.bind_eq_some_iff.mp hy
  have HY1 := Aside0.mk hy1
  have HY2 := Aside0.mk hy2
  clear hy hy1 hy2 HH
  have pm := eq_true (show (0 : Int) ≤ (i : Int) by omega)
  have qm := eq_true (show (i : Int) < (l0.length : Int) by omega)
  obtain ⟨ad, hA, hx0, hx1, hx2, hx3, hx4, hx5, hx6, hx7⟩ := at_T41 (Kd.R_reads' HO.out).2.2 (i : Int) (by omega) (by omega)
  subst hA
  have hn1 : rd_T41 l0 (i : Int) = l0.getD i z41 := rfl
  rw [hn1] at hx0 hx1 hx2 hx3 hx4 hx5 hx6 hx7
  generalize hel : l0.getD i z41 = el at hx0 hx1 hx2 hx3 hx4 hx5 hx6 hx7 HY1
  simp only [Int.toNat_natCast] at hx0 hx1 hx2 hx3 hx4 hx5 hx6 hx7
  go_wp2_with fail
  refine start_ (n := 7) (S := fun w' => w'.cell? (ad.add (i * 8)) = some (.int .i64 el.f0) ∧ w'.cell? ⟨(ad.add (i * 8)).block, (ad.add (i * 8)).off + 1, none⟩ = some (.string el.f1.f0) ∧ w'.cell? ⟨(ad.add (i * 8)).block, (ad.add (i * 8)).off + 2, none⟩ = some (.int .i64 el.f1.f1) ∧ w'.cell? ⟨(ad.add (i * 8)).block, (ad.add (i * 8)).off + 3, none⟩ = some (.int .i64 el.f1.f2) ∧ w'.cell? ⟨(ad.add (i * 8)).block, (ad.add (i * 8)).off + 4, none⟩ = some (.bool el.f2) ∧ w'.cell? ⟨(ad.add (i * 8)).block, (ad.add (i * 8)).off + 5, none⟩ = some (.complex .f64 el.f3.re el.f3.im) ∧ w'.cell? ⟨(ad.add (i * 8)).block, (ad.add (i * 8)).off + 6, none⟩ = some (.string el.f4) ∧ w'.cell? ⟨(ad.add (i * 8)).block, (ad.add (i * 8)).off + 7, none⟩ = some (.bool el.f5) ∧ w'.cell? ⟨w.heap.size, 0, none⟩ = some (.int .i64 a1_0) ∧ w'.cell? ⟨w.heap.size, 1, none⟩ = some (.string a1_1) ∧ w'.cell? ⟨w.heap.size, 2, none⟩ = some (.int .i64 a1_2) ∧ w'.cell? ⟨w.heap.size, 3, none⟩ = some (.int .i64 a1_3) ∧ w'.cell? ⟨w.heap.size, 4, none⟩ = some (.bool a1_4) ∧ w'.cell? ⟨w.heap.size, 5, none⟩ = some (.complex .f64 a1_5.re a1_5.im) ∧ w'.cell? ⟨w.heap.size, 6, none⟩ = some (.string a1_6) ∧ w'.cell? ⟨w.heap.size, 7, none⟩ = some (.bool a1_7)) (ds := []) #[false, false, false, false, false, false, false] (by kernel_rfl) rfl rfl ⟨hx0, hx1, hx2, hx3, hx4, hx5, hx6, hx7, hv0, hv1, hv2, hv3, hv4, hv5, hv6, hv7⟩ (fun hHeld => ?_)
  have hbd := below_drew1 (Below.refl w2.heap.size w2)
  replace HO := Aside0.mk (Kd.R_below HO.out hbd)
  replace BK1 := Aside0.mk (blk_below BK1.out hbd)
  replace HZ := Aside0.mk (show w.heap.size + 1 ≤ w2.drew.heap.size from Nat.le_trans HZ.out hbd.size)
  replace HB := Aside0.mk (below_step HB.out hbd)
  replace hx0 : w2.drew.cell? _ = _ := hx0
  replace hx1 : w2.drew.cell? _ = _ := hx1
  replace hx2 : w2.drew.cell? _ = _ := hx2
  replace hx3 : w2.drew.cell? _ = _ := hx3
  replace hx4 : w2.drew.cell? _ = _ := hx4
  replace hx5 : w2.drew.cell? _ = _ := hx5
  replace hx6 : w2.drew.cell? _ = _ := hx6
  replace hx7 : w2.drew.cell? _ = _ := hx7
  clear hbd hv0 hv1 hv2 hv3 hv4 hv5 hv6 hv7
  generalize w2.drew = w2d at HO BK1 HZ HB hHeld hx0 hx1 hx2 hx3 hx4 hx5 hx6 hx7 ⊢
  refine p_ 0 27 (mk_ 7 0x1) ?_
  refine p_ 1 28 (mk_ 7 0x3) ?_
  refine p_ 2 29 (mk_ 7 0x7) ?_
  refine t_ 3 30 (mk_ 7 0xf) hHeld ?_
  refine t_ 4 31 (mk_ 7 0x1f) hHeld ?_
  refine one_ (i := 5) (N := some 32) #[true, true, true, true, true, true, false] rfl rfl (by kernel_rfl) (by decide) (fun K hK => ?_)
  refine goes_ Try.func38 (by kernel_rfl) rfl #[.agg #[.int .i64 el.f0, .string el.f1.f0, .int .i64 el.f1.f1, .int .i64 el.f1.f2, .bool el.f2, .complex .f64 el.f3.re el.f3.im, .string el.f4, .bool el.f5], .agg #[.int .i64 a1_0, .string a1_1, .int .i64 a1_2, .int .i64 a1_3, .bool a1_4, .complex .f64 a1_5.re a1_5.im, .string a1_6, .bool a1_7]] (by rfl) rfl rfl (by (try simp only [List.map_toArray, List.map_cons, List.map_nil]); first | done | rfl) ?_
  refine (store_yields.calls el.f0 el.f1.f0 el.f1.f1 el.f1.f2 el.f2 el.f3 el.f4 el.f5 a1_0 a1_1 a1_2 a1_3 a1_4 a1_5 a1_6 a1_7 y w2d HY1.out).mono ?_
  rintro ev w3 ⟨rfl, hb3⟩
  refine ⟨_, rfl, ?_⟩
  replace HO := Aside0.mk (Kd.R_below HO.out hb3)
  replace BK1 := Aside0.mk (blk_below BK1.out hb3)
  replace HZ := Aside0.mk (show w.heap.size + 1 ≤ w3.heap.size from Nat.le_trans HZ.out hb3.size)
  replace HB := Aside0.mk (below_step HB.out hb3)
  replace hx0 := (hb3.cell (World.block_lt_of_cell? _ _ hx0)).trans hx0
  replace hx1 := (hb3.cell (World.block_lt_of_cell? _ _ hx1)).trans hx1
  replace hx2 := (hb3.cell (World.block_lt_of_cell? _ _ hx2)).trans hx2
  replace hx3 := (hb3.cell (World.block_lt_of_cell? _ _ hx3)).trans hx3
  replace hx4 := (hb3.cell (World.block_lt_of_cell? _ _ hx4)).trans hx4
  replace hx5 := (hb3.cell (World.block_lt_of_cell? _ _ hx5)).trans hx5
  replace hx6 := (hb3.cell (World.block_lt_of_cell? _ _ hx6)).trans hx6
  replace hx7 := (hb3.cell (World.block_lt_of_cell? _ _ hx7)).trans hx7
  clear hb3
  refine hK.out _ _ ⟨hx0, hx1, hx2, hx3, hx4, hx5, hx6, hx7, (blk_cell BK1.out 0).trans rfl, (blk_cell BK1.out 1).trans rfl, (blk_cell BK1.out 2).trans rfl, (blk_cell BK1.out 3).trans rfl, (blk_cell BK1.out 4).trans rfl, (blk_cell BK1.out 5).trans rfl, (blk_cell BK1.out 6).trans rfl, (blk_cell BK1.out 7).trans rfl⟩ (fun hHeld => ?_)
  clear hK K
  refine norm_ (a' := ?_) ?_ ?_
  rotate_left
  ·show Act.put _ (some 32) _ = _
   simp only [Act.put, List.setIfInBounds_toArray, List.set_cons_zero, List.set_cons_succ, i64_w, i32_w]
   rfl
  refine p_ 6 26 (mk_ 7 0x7f) ?_
  refine done_ (by kernel_rfl) ?_
  clear hHeld
  cases y with
  | false =>
   have hrr : (l0, false) = (r1, r2) := by have := HY2.out; rw [if_neg (by simp)] at this; exact Option.some.inj this
   obtain ⟨e1, e2⟩ := Prod.mk.inj hrr
   subst e1; subst e2
   clear hrr HY2
   go_wp2_with fail
   go_ret2
   exact ⟨_, rfl, Kd.R_lower HO.out (Nat.le_succ _), HB.out⟩
  | true =>
   have hrr : (l0.set i ⟨a1_0, ⟨a1_1, a1_2, a1_3⟩, a1_4, a1_5, a1_6, a1_7⟩, true) = (r1, r2) := by have := HY2.out; rw [if_pos rfl] at this; exact Option.some.inj this
   obtain ⟨e1, e2⟩ := Prod.mk.inj hrr
   subst e1; subst e2
   clear hrr HY2
   obtain ⟨g, cap, cur, ev, hg, _, hh, _, _, hcs, hp⟩ := R_open HO.out (fun e => by rw [e] at hlt; simp at hlt)
   injection ev with eA _ ec
   injection eA with eA
   subst eA; subst ec
   simp only [Addr.add_lit, Nat.zero_add] at hx0 hx1 hx2 hx3 hx4 hx5 hx6 hx7
   have hv0 : w3.cell? ⟨w.heap.size, 0, none⟩ = some (.int .i64 a1_0) := (blk_cell BK1.out 0).trans rfl
   have hv1 : w3.cell? ⟨w.heap.size, 1, none⟩ = some (.string a1_1) := (blk_cell BK1.out 1).trans rfl
   have hv2 : w3.cell? ⟨w.heap.size, 2, none⟩ = some (.int .i64 a1_2) := (blk_cell BK1.out 2).trans rfl
   have hv3 : w3.cell? ⟨w.heap.size, 3, none⟩ = some (.int .i64 a1_3) := (blk_cell BK1.out 3).trans rfl
   have hv4 : w3.cell? ⟨w.heap.size, 4, none⟩ = some (.bool a1_4) := (blk_cell BK1.out 4).trans rfl
   have hv5 : w3.cell? ⟨w.heap.size, 5, none⟩ = some (.complex .f64 a1_5.re a1_5.im) := (blk_cell BK1.out 5).trans rfl
   have hv6 : w3.cell? ⟨w.heap.size, 6, none⟩ = some (.string a1_6) := (blk_cell BK1.out 6).trans rfl
   have hv7 : w3.cell? ⟨w.heap.size, 7, none⟩ = some (.bool a1_7) := (blk_cell BK1.out 7).trans rfl
   have hz0 : w3.frozen? ⟨g, i * 8, none⟩ = false := blk_frozen hh _
   have hz1 : w3.frozen? ⟨g, i * 8 + 1, none⟩ = false := blk_frozen hh _
   have hz2 : w3.frozen? ⟨g, i * 8 + 2, none⟩ = false := blk_frozen hh _
   have hz3 : w3.frozen? ⟨g, i * 8 + 3, none⟩ = false := blk_frozen hh _
   have hz4 : w3.frozen? ⟨g, i * 8 + 4, none⟩ = false := blk_frozen hh _
   have hz5 : w3.frozen? ⟨g, i * 8 + 5, none⟩ = false := blk_frozen hh _
   have hz6 : w3.frozen? ⟨g, i * 8 + 6, none⟩ = false := blk_frozen hh _
   have hz7 : w3.frozen? ⟨g, i * 8 + 7, none⟩ = false := blk_frozen hh _
   have hset := Kd.R_seg (d := k41) (W := w3) (okp := fun _ => False) HO.out (i : Int) (by omega) (by omega) (c := [.int .i64 el.f0, .string el.f1.f0, .int .i64 el.f1.f1, .int .i64 el.f1.f2, .bool el.f2, .complex .f64 el.f3.re el.f3.im, .string el.f4, .bool el.f5]) (seg := [.int .i64 a1_0, .string a1_1, .int .i64 a1_2, .int .i64 a1_3, .bool a1_4, .complex .f64 a1_5.re a1_5.im, .string a1_6, .bool a1_7]) (j := 0) rfl (fun q u hq => by rw [Int.toNat_natCast]; rcases q with _ | _ | _ | _ | _ | _ | _ | _ | q; (cases hq; exact hx0); (cases hq; exact hx1); (cases hq; exact hx2); (cases hq; exact hx3); (cases hq; exact hx4); (cases hq; exact hx5); (cases hq; exact hx6); (cases hq; exact hx7); (cases hq)) (show 0 + 8 ≤ 8 by decide) (x' := ⟨a1_0, ⟨a1_1, a1_2, a1_3⟩, a1_4, a1_5, a1_6, a1_7⟩) (k41_mkM _ _ _ ⟨a1_0, ⟨a1_1, a1_2, a1_3⟩, a1_4, a1_5, a1_6, a1_7⟩) (fun _ h => h.elim)
   simp only [Int.toNat_natCast] at hset
   have HS := Aside0.mk hset.1
   have HB5 := Aside0.mk (HB.out.grown hset.2 (below_size' HB.out (Nat.le_refl _)) (fun k e => by injection e with e; have := hg; omega))
   clear hset hp hcs hg hh
   go_wp2_with fail
   go_ret2
   exact ⟨_, rfl, Kd.R_lower HS.out (Nat.le_succ _), HB5.out⟩

/-! ### store_Get: function 14 -/
theorem zq14_0 {p_ : Prop} (h_ : p_ := by rw [hg]; exact (below_size (by repeat (first | (with_reducible first | exact HB.out | apply below_alloc | apply pw_below_drewN | apply below_drew1) | exact HB.out)))) : p_ := h_
def store_Get.f (l0 : List (S41)) (a1 : Int) : Option (Int × ByteArray × Int × Int × Bool × Cx × ByteArray × Bool × Bool) := (store_find.f l0 a1).bind fun bt200 => (if bt200.2 = true then (if 0 ≤ bt200.1 then (if bt200.1 < (l0.length : Int) then (some ((rd_T41 l0 bt200.1).f0, (rd_T41 l0 bt200.1).f1.f0, (rd_T41 l0 bt200.1).f1.f1, (rd_T41 l0 bt200.1).f1.f2, (rd_T41 l0 bt200.1).f2, (rd_T41 l0 bt200.1).f3, (rd_T41 l0 bt200.1).f4, (rd_T41 l0 bt200.1).f5, true)) else (none)) else (none)) else (some (0, (⟨#[]⟩ : ByteArray), 0, 0, false, (⟨0, 0⟩ : Cx), (⟨#[]⟩ : ByteArray), false, false)))
set_option maxHeartbeats 8000000 in
set_option maxRecDepth 100000 in
theorem store_Get.calls (A0 : Option Addr) (c0 : Nat) (l0 : List (S41)) (a1 : Int) (r1 : Int) (r2 : ByteArray) (r3 : Int) (r4 : Int) (r5 : Bool) (r6 : Cx) (r7 : ByteArray) (r8 : Bool) (r9 : Bool) (w : World) (hr0 : Kd.C k41 w A0 l0.length l0) (hc0 : l0.length ≤ c0) (h : store_Get.f l0 a1 = some (r1, r2, r3, r4, r5, r6, r7, r8, r9)) :
  Calls Try.prog 14 #[.slice A0 l0.length c0, .int .i64 a1] w fun e w' => e = .returned (.tuple #[.agg #[.int .i64 r1, .string r2, .int .i64 r3, .int .i64 r4, .bool r5, .complex .f64 r6.re r6.im, .string r7, .bool r8], .bool r9]) ∧ Below w.heap.size w w' := by
 have hu41 := Try.underlying41
 have HR0 := Aside0.mk hr0
 have HC0 := Aside0.mk hc0
 clear hr0 hc0
 have HB := Aside0.mk (Below.refl w.heap.size w)
 have H : ((store_find.f l0 a1).bind fun bt200 => (if bt200.2 = true then (if 0 ≤ bt200.1 then (if bt200.1 < (l0.length : Int) then (some ((rd_T41 l0 bt200.1).f0, (rd_T41 l0 bt200.1).f1.f0, (rd_T41 l0 bt200.1).f1.f1, (rd_T41 l0 bt200.1).f1.f2, (rd_T41 l0 bt200.1).f2, (rd_T41 l0 bt200.1).f3, (rd_T41 l0 bt200.1).f4, (rd_T41 l0 bt200.1).f5, true)) else (none)) else (none)) else (some (0, (⟨#[]⟩ : ByteArray), 0, 0, false, (⟨0, 0⟩ : Cx), (⟨#[]⟩ : ByteArray), false, false)))) = some (r1, r2, r3, r4, r5, r6, r7, r8, r9) := h
 clear h
 replace H := Option.bind_eq_some_iff.mp H
 obtain ⟨⟨t200, t201⟩, A30, H⟩ := H
 replace H : (if t201 = true then (if 0 ≤ t200 then (if t200 < (l0.length : Int) then (some ((rd_T41 l0 t200).f0, (rd_T41 l0 t200).f1.f0, (rd_T41 l0 t200).f1.f1, (rd_T41 l0 t200).f1.f2, (rd_T41 l0 t200).f2, (rd_T41 l0 t200).f3, (rd_T41 l0 t200).f4, (rd_T41 l0 t200).f5, true)) else (none)) else (none)) else (some (0, (⟨#[]⟩ : ByteArray), 0, 0, false, (⟨0, 0⟩ : Cx), (⟨#[]⟩ : ByteArray), false, false))) = some (r1, r2, r3, r4, r5, r6, r7, r8, r9) := H
 have A3 := Aside0.mk A30
 clear A30
 by_cases c4 : t201 = true
 ·subst c4
  have H1 : (if 0 ≤ t200 then (if t200 < (l0.length : Int) then (some ((rd_T41 l0 t200).f0, (rd_T41 l0 t200).f1.f0, (rd_T41 l0 t200).f1.f1, (rd_T41 l0 t200).f1.f2, (rd_T41 l0 t200).f2, (rd_T41 l0 t200).f3, (rd_T41 l0 t200).f4, (rd_T41 l0 t200).f5, true)) else (none)) else (none)) = some (r1, r2, r3, r4, r5, r6, r7, r8, r9) := by rw [if_pos rfl] at H; exact H
  clear H
  have H := H1
  clear H1
  by_cases c5 : 0 ≤ t200
  ·rw [if_pos c5] at H
   have c5b0 : decide (0 ≤ t200) = true := decide_eq_true c5
   clear c5
   by_cases c6 : t200 < (l0.length : Int)
   ·rw [if_pos c6] at H
    have c6b0 : decide (t200 < (l0.length : Int)) = true := decide_eq_true c6
    clear c6
    simp only [Option.some.injEq, Prod.mk.injEq] at H
    obtain ⟨rfl, rfl, rfl, rfl, rfl, rfl, rfl, rfl, rfl⟩ := H
    go_enter Try.func14, Try.ntmps14
    go_wp2_with (first | ((with_reducible refine gate_dst (N := 4) rfl ?_); refine box_event ?hg (N := 4) ?hd (cs := #[.int .i64 0, .string (⟨#[]⟩ : ByteArray), .int .i64 0, .int .i64 0, .bool false, .complex .f64 0 0, .string (⟨#[]⟩ : ByteArray), .bool false]) (t := 41) ?hr ?_; (case hd => rfl); (case hg => rfl); (case hr => first | (go_simp; done) | (go_simp; rfl)); intro gb199 hg w7 hbox hb; have BK199 := Aside0.mk (hbox); have GW199 := Aside0.mk ((zq14_0 : w.heap.size ≤ gb199)); have GE199 := Aside0.mk ((zq14_0 : w.heap.size ≤ gb199)); replace HB := Aside0.mk (below_step (by repeat (first | (with_reducible first | exact HB.out | apply below_alloc | apply pw_below_drewN | apply below_drew1) | exact HB.out)) hb); clear hb hbox hg) | ((with_reducible refine gate_callee (f := 36) rfl ?_); refine goesL_ (some 11) rfl rfl Try.func36 (by kernel_rfl) rfl #[.slice A0 l0.length c0, .int .i64 a1] rfl (by (try simp only [List.map_toArray, List.map_cons, List.map_nil]); first | done | rfl | (simp only [List.length_drop, List.length_take]; rfl)) ?_; (with_reducible refine (store_find.calls _ _ l0 a1 t200 true _ ?side1 ?side2 A3.out).mono ?_); (case side1 => repeat (first | exact (Kd.C_below HR0.out HB.out) | (with_reducible refine Kd.C_alloc ?_ _) | (with_reducible refine Kd.C_drewN ?_ _) | (with_reducible refine Kd.C_drew ?_))); (case side2 => exact HC0.out); rintro e w8 ⟨rfl, hb⟩; refine ⟨_, rfl, ?_⟩; replace BK199 := Aside0.mk (blk_below (g := gb199) (o := .cells #[.int .i64 0, .string (⟨#[]⟩ : ByteArray), .int .i64 0, .int .i64 0, .bool false, .complex .f64 0 0, .string (⟨#[]⟩ : ByteArray), .bool false] 41 (0, 0)) (by (with_reducible repeat (first | refine blk_drewN ?_ _ | refine blk_drew ?_ | refine blk_alloc ?_ _)); exact BK199.out) hb); replace HB := Aside0.mk (below_step (by repeat (first | (with_reducible first | exact HB.out | apply below_alloc | apply pw_below_drewN | apply below_drew1 | refine below_set ?_ GE199.out) | exact HB.out)) hb); (try clear hb); (try clear hb2); (try clear hk); (try clear hi); have p202 : 0 ≤ (t200 : Int) := of_decide_eq_true (by first | (with_reducible assumption) | assumption); have q202 : t200 < (l0.length : Int) := of_decide_eq_true (by first | (with_reducible assumption) | assumption); obtain ⟨ad202, e202, hx202_0, hx202_1, hx202_2, hx202_3, hx202_4, hx202_5, hx202_6, hx202_7⟩ := at_T41 HR0.out t200 p202 q202; cases e202; replace hx202_0 := (HB.out.cell (World.block_lt_of_cell? w _ hx202_0)).trans hx202_0; replace hx202_1 := (HB.out.cell (World.block_lt_of_cell? w _ hx202_1)).trans hx202_1; replace hx202_2 := (HB.out.cell (World.block_lt_of_cell? w _ hx202_2)).trans hx202_2; replace hx202_3 := (HB.out.cell (World.block_lt_of_cell? w _ hx202_3)).trans hx202_3; replace hx202_4 := (HB.out.cell (World.block_lt_of_cell? w _ hx202_4)).trans hx202_4; replace hx202_5 := (HB.out.cell (World.block_lt_of_cell? w _ hx202_5)).trans hx202_5; replace hx202_6 := (HB.out.cell (World.block_lt_of_cell? w _ hx202_6)).trans hx202_6; replace hx202_7 := (HB.out.cell (World.block_lt_of_cell? w _ hx202_7)).trans hx202_7; replace p202 := eq_true p202; replace q202 := eq_true q202; have hcz9_0 : w8.cell? ⟨gb199, 0, none⟩ = some (.int .i64 0) := (blk_cell BK199.out 0).trans rfl; have hcz9_1 : w8.cell? ⟨gb199, 1, none⟩ = some (.string (⟨#[]⟩ : ByteArray)) := (blk_cell BK199.out 1).trans rfl; have hcz9_2 : w8.cell? ⟨gb199, 2, none⟩ = some (.int .i64 0) := (blk_cell BK199.out 2).trans rfl; have hcz9_3 : w8.cell? ⟨gb199, 3, none⟩ = some (.int .i64 0) := (blk_cell BK199.out 3).trans rfl; have hcz9_4 : w8.cell? ⟨gb199, 4, none⟩ = some (.bool false) := (blk_cell BK199.out 4).trans rfl; have hcz9_5 : w8.cell? ⟨gb199, 5, none⟩ = some (.complex .f64 0 0) := (blk_cell BK199.out 5).trans rfl; have hcz9_6 : w8.cell? ⟨gb199, 6, none⟩ = some (.string (⟨#[]⟩ : ByteArray)) := (blk_cell BK199.out 6).trans rfl; have hcz9_7 : w8.cell? ⟨gb199, 7, none⟩ = some (.bool false) := (blk_cell BK199.out 7).trans rfl; have hfz9_0 := blk_frozen BK199.out 0; have hfz9_1 := blk_frozen BK199.out 1; have hfz9_2 := blk_frozen BK199.out 2; have hfz9_3 := blk_frozen BK199.out 3; have hfz9_4 := blk_frozen BK199.out 4; have hfz9_5 := blk_frozen BK199.out 5; have hfz9_6 := blk_frozen BK199.out 6; have hfz9_7 := blk_frozen BK199.out 7))
    refine bodyPost_ret (results_ct rfl _ _ gb199 41 #[.int .i64 ((rd_T41 l0 t200).f0), .string ((rd_T41 l0 t200).f1.f0), .int .i64 ((rd_T41 l0 t200).f1.f1), .int .i64 ((rd_T41 l0 t200).f1.f2), .bool ((rd_T41 l0 t200).f2), .complex .f64 ((rd_T41 l0 t200).f3).re ((rd_T41 l0 t200).f3).im, .string ((rd_T41 l0 t200).f4), .bool ((rd_T41 l0 t200).f5)] (0, 0) _ rfl (by (with_reducible repeat (first | refine blk_drewN ?_ _ | refine blk_drew ?_ | refine blk_alloc ?_ _)); refine blk_put (cs := #[.int .i64 ((rd_T41 l0 t200).f0), .string ((rd_T41 l0 t200).f1.f0), .int .i64 ((rd_T41 l0 t200).f1.f1), .int .i64 ((rd_T41 l0 t200).f1.f2), .bool ((rd_T41 l0 t200).f2), .complex .f64 ((rd_T41 l0 t200).f3).re ((rd_T41 l0 t200).f3).im, .string ((rd_T41 l0 t200).f4), .bool false]) ?_ 7 _ rfl; (with_reducible repeat (first | refine blk_drewN ?_ _ | refine blk_drew ?_ | refine blk_alloc ?_ _)); refine blk_put (cs := #[.int .i64 ((rd_T41 l0 t200).f0), .string ((rd_T41 l0 t200).f1.f0), .int .i64 ((rd_T41 l0 t200).f1.f1), .int .i64 ((rd_T41 l0 t200).f1.f2), .bool ((rd_T41 l0 t200).f2), .complex .f64 ((rd_T41 l0 t200).f3).re ((rd_T41 l0 t200).f3).im, .string (⟨#[]⟩ : ByteArray), .bool false]) ?_ 6 _ rfl; (with_reducible repeat (first | refine blk_drewN ?_ _ | refine blk_drew ?_ | refine blk_alloc ?_ _)); refine blk_put (cs := #[.int .i64 ((rd_T41 l0 t200).f0), .string ((rd_T41 l0 t200).f1.f0), .int .i64 ((rd_T41 l0 t200).f1.f1), .int .i64 ((rd_T41 l0 t200).f1.f2), .bool ((rd_T41 l0 t200).f2), .complex .f64 0 0, .string (⟨#[]⟩ : ByteArray), .bool false]) ?_ 5 _ rfl; (with_reducible repeat (first | refine blk_drewN ?_ _ | refine blk_drew ?_ | refine blk_alloc ?_ _)); refine blk_put (cs := #[.int .i64 ((rd_T41 l0 t200).f0), .string ((rd_T41 l0 t200).f1.f0), .int .i64 ((rd_T41 l0 t200).f1.f1), .int .i64 ((rd_T41 l0 t200).f1.f2), .bool false, .complex .f64 0 0, .string (⟨#[]⟩ : ByteArray), .bool false]) ?_ 4 _ rfl; (with_reducible repeat (first | refine blk_drewN ?_ _ | refine blk_drew ?_ | refine blk_alloc ?_ _)); refine blk_put (cs := #[.int .i64 ((rd_T41 l0 t200).f0), .string ((rd_T41 l0 t200).f1.f0), .int .i64 ((rd_T41 l0 t200).f1.f1), .int .i64 0, .bool false, .complex .f64 0 0, .string (⟨#[]⟩ : ByteArray), .bool false]) ?_ 3 _ rfl; (with_reducible repeat (first | refine blk_drewN ?_ _ | refine blk_drew ?_ | refine blk_alloc ?_ _)); refine blk_put (cs := #[.int .i64 ((rd_T41 l0 t200).f0), .string ((rd_T41 l0 t200).f1.f0), .int .i64 0, .int .i64 0, .bool false, .complex .f64 0 0, .string (⟨#[]⟩ : ByteArray), .bool false]) ?_ 2 _ rfl; (with_reducible repeat (first | refine blk_drewN ?_ _ | refine blk_drew ?_ | refine blk_alloc ?_ _)); refine blk_put (cs := #[.int .i64 ((rd_T41 l0 t200).f0), .string (⟨#[]⟩ : ByteArray), .int .i64 0, .int .i64 0, .bool false, .complex .f64 0 0, .string (⟨#[]⟩ : ByteArray), .bool false]) ?_ 1 _ rfl; (with_reducible repeat (first | refine blk_drewN ?_ _ | refine blk_drew ?_ | refine blk_alloc ?_ _)); refine blk_put (cs := #[.int .i64 0, .string (⟨#[]⟩ : ByteArray), .int .i64 0, .int .i64 0, .bool false, .complex .f64 0 0, .string (⟨#[]⟩ : ByteArray), .bool false]) ?_ 0 _ rfl; (with_reducible repeat (first | refine blk_drewN ?_ _ | refine blk_drew ?_ | refine blk_alloc ?_ _)); exact BK199.out) Try.underlying41 rfl (by kernel_rfl)) rfl ?_
    exact ⟨by first | rfl | (simp [errW_none, errW_some] <;> rfl) | (simp [*, errW_none, errW_some] <;> rfl), by repeat (first | (with_reducible first | exact HB.out | apply below_alloc | apply pw_below_drewN | apply below_drew1 | refine below_set ?_ GE199.out) | exact HB.out)⟩
   ·rw [if_neg c6] at H
    exact absurd H (by simp)
  ·rw [if_neg c5] at H
   exact absurd H (by simp)
 ·replace c4 := Bool.eq_false_iff.mpr c4
  subst c4
  have H1 : (some (0, (⟨#[]⟩ : ByteArray), 0, 0, false, (⟨0, 0⟩ : Cx), (⟨#[]⟩ : ByteArray), false, false)) = some (r1, r2, r3, r4, r5, r6, r7, r8, r9) := by rw [if_neg (show ¬ (false = true) by decide)] at H; exact H
  clear H
  have H := H1
  clear H1
  simp only [Option.some.injEq, Prod.mk.injEq] at H
  obtain ⟨rfl, rfl, rfl, rfl, rfl, rfl, rfl, rfl, rfl⟩ := H
  go_enter Try.func14, Try.ntmps14
  go_wp2_with (first | ((with_reducible refine gate_dst (N := 4) rfl ?_); refine box_event ?hg (N := 4) ?hd (cs := #[.int .i64 0, .string (⟨#[]⟩ : ByteArray), .int .i64 0, .int .i64 0, .bool false, .complex .f64 0 0, .string (⟨#[]⟩ : ByteArray), .bool false]) (t := 41) ?hr ?_; (case hd => rfl); (case hg => rfl); (case hr => first | (go_simp; done) | (go_simp; rfl)); intro gb199 hg w10 hbox hb; have BK199 := Aside0.mk (hbox); have GW199 := Aside0.mk ((zq14_0 : w.heap.size ≤ gb199)); have GE199 := Aside0.mk ((zq14_0 : w.heap.size ≤ gb199)); replace HB := Aside0.mk (below_step (by repeat (first | (with_reducible first | exact HB.out | apply below_alloc | apply pw_below_drewN | apply below_drew1) | exact HB.out)) hb); clear hb hbox hg) | ((with_reducible refine gate_callee (f := 36) rfl ?_); refine goesL_ (some 11) rfl rfl Try.func36 (by kernel_rfl) rfl #[.slice A0 l0.length c0, .int .i64 a1] rfl (by (try simp only [List.map_toArray, List.map_cons, List.map_nil]); first | done | rfl | (simp only [List.length_drop, List.length_take]; rfl)) ?_; (with_reducible refine (store_find.calls _ _ l0 a1 t200 false _ ?side1 ?side2 A3.out).mono ?_); (case side1 => repeat (first | exact (Kd.C_below HR0.out HB.out) | (with_reducible refine Kd.C_alloc ?_ _) | (with_reducible refine Kd.C_drewN ?_ _) | (with_reducible refine Kd.C_drew ?_))); (case side2 => exact HC0.out); rintro e w11 ⟨rfl, hb⟩; refine ⟨_, rfl, ?_⟩; replace BK199 := Aside0.mk (blk_below (g := gb199) (o := .cells #[.int .i64 0, .string (⟨#[]⟩ : ByteArray), .int .i64 0, .int .i64 0, .bool false, .complex .f64 0 0, .string (⟨#[]⟩ : ByteArray), .bool false] 41 (0, 0)) (by (with_reducible repeat (first | refine blk_drewN ?_ _ | refine blk_drew ?_ | refine blk_alloc ?_ _)); exact BK199.out) hb); replace HB := Aside0.mk (below_step (by repeat (first | (with_reducible first | exact HB.out | apply below_alloc | apply pw_below_drewN | apply below_drew1 | refine below_set ?_ GE199.out) | exact HB.out)) hb); (try clear hb); (try clear hb2); (try clear hk); (try clear hi); have hcz12_0 : w11.cell? ⟨gb199, 0, none⟩ = some (.int .i64 0) := (blk_cell BK199.out 0).trans rfl; have hcz12_1 : w11.cell? ⟨gb199, 1, none⟩ = some (.string (⟨#[]⟩ : ByteArray)) := (blk_cell BK199.out 1).trans rfl; have hcz12_2 : w11.cell? ⟨gb199, 2, none⟩ = some (.int .i64 0) := (blk_cell BK199.out 2).trans rfl; have hcz12_3 : w11.cell? ⟨gb199, 3, none⟩ = some (.int .i64 0) := (blk_cell BK199.out 3).trans rfl; have hcz12_4 : w11.cell? ⟨gb199, 4, none⟩ = some (.bool false) := (blk_cell BK199.out 4).trans rfl; have hcz12_5 : w11.cell? ⟨gb199, 5, none⟩ = some (.complex .f64 0 0) := (blk_cell BK199.out 5).trans rfl; have hcz12_6 : w11.cell? ⟨gb199, 6, none⟩ = some (.string (⟨#[]⟩ : ByteArray)) := (blk_cell BK199.out 6).trans rfl; have hcz12_7 : w11.cell? ⟨gb199, 7, none⟩ = some (.bool false) := (blk_cell BK199.out 7).trans rfl; have hfz12_0 := blk_frozen BK199.out 0; have hfz12_1 := blk_frozen BK199.out 1; have hfz12_2 := blk_frozen BK199.out 2; have hfz12_3 := blk_frozen BK199.out 3; have hfz12_4 := blk_frozen BK199.out 4; have hfz12_5 := blk_frozen BK199.out 5; have hfz12_6 := blk_frozen BK199.out 6; have hfz12_7 := blk_frozen BK199.out 7))
  refine bodyPost_ret (results_ct rfl _ _ gb199 41 #[.int .i64 0, .string (⟨#[]⟩ : ByteArray), .int .i64 0, .int .i64 0, .bool false, .complex .f64 0 0, .string (⟨#[]⟩ : ByteArray), .bool false] (0, 0) _ rfl (by (with_reducible repeat (first | refine blk_drewN ?_ _ | refine blk_drew ?_ | refine blk_alloc ?_ _)); refine blk_put (cs := #[.int .i64 0, .string (⟨#[]⟩ : ByteArray), .int .i64 0, .int .i64 0, .bool false, .complex .f64 0 0, .string (⟨#[]⟩ : ByteArray), .bool false]) ?_ 7 _ rfl; (with_reducible repeat (first | refine blk_drewN ?_ _ | refine blk_drew ?_ | refine blk_alloc ?_ _)); refine blk_put (cs := #[.int .i64 0, .string (⟨#[]⟩ : ByteArray), .int .i64 0, .int .i64 0, .bool false, .complex .f64 0 0, .string (⟨#[]⟩ : ByteArray), .bool false]) ?_ 6 _ rfl; (with_reducible repeat (first | refine blk_drewN ?_ _ | refine blk_drew ?_ | refine blk_alloc ?_ _)); refine blk_put (cs := #[.int .i64 0, .string (⟨#[]⟩ : ByteArray), .int .i64 0, .int .i64 0, .bool false, .complex .f64 0 0, .string (⟨#[]⟩ : ByteArray), .bool false]) ?_ 5 _ rfl; (with_reducible repeat (first | refine blk_drewN ?_ _ | refine blk_drew ?_ | refine blk_alloc ?_ _)); refine blk_put (cs := #[.int .i64 0, .string (⟨#[]⟩ : ByteArray), .int .i64 0, .int .i64 0, .bool false, .complex .f64 0 0, .string (⟨#[]⟩ : ByteArray), .bool false]) ?_ 4 _ rfl; (with_reducible repeat (first | refine blk_drewN ?_ _ | refine blk_drew ?_ | refine blk_alloc ?_ _)); refine blk_put (cs := #[.int .i64 0, .string (⟨#[]⟩ : ByteArray), .int .i64 0, .int .i64 0, .bool false, .complex .f64 0 0, .string (⟨#[]⟩ : ByteArray), .bool false]) ?_ 3 _ rfl; (with_reducible repeat (first | refine blk_drewN ?_ _ | refine blk_drew ?_ | refine blk_alloc ?_ _)); refine blk_put (cs := #[.int .i64 0, .string (⟨#[]⟩ : ByteArray), .int .i64 0, .int .i64 0, .bool false, .complex .f64 0 0, .string (⟨#[]⟩ : ByteArray), .bool false]) ?_ 2 _ rfl; (with_reducible repeat (first | refine blk_drewN ?_ _ | refine blk_drew ?_ | refine blk_alloc ?_ _)); refine blk_put (cs := #[.int .i64 0, .string (⟨#[]⟩ : ByteArray), .int .i64 0, .int .i64 0, .bool false, .complex .f64 0 0, .string (⟨#[]⟩ : ByteArray), .bool false]) ?_ 1 _ rfl; (with_reducible repeat (first | refine blk_drewN ?_ _ | refine blk_drew ?_ | refine blk_alloc ?_ _)); refine blk_put (cs := #[.int .i64 0, .string (⟨#[]⟩ : ByteArray), .int .i64 0, .int .i64 0, .bool false, .complex .f64 0 0, .string (⟨#[]⟩ : ByteArray), .bool false]) ?_ 0 _ rfl; (with_reducible repeat (first | refine blk_drewN ?_ _ | refine blk_drew ?_ | refine blk_alloc ?_ _)); exact BK199.out) Try.underlying41 rfl (by kernel_rfl)) rfl ?_
  exact ⟨by first | rfl | (simp [errW_none, errW_some] <;> rfl) | (simp [*, errW_none, errW_some] <;> rfl), by repeat (first | (with_reducible first | exact HB.out | apply below_alloc | apply pw_below_drewN | apply below_drew1 | refine below_set ?_ GE199.out) | exact HB.out)⟩

/-! ### strings_HasPrefix: function 90 -/
def strings_HasPrefix.f (a0 : ByteArray) (a1 : ByteArray) : Option Bool := some (a1.data.toList.isPrefixOf a0.data.toList)
set_option maxHeartbeats 800000 in
theorem strings_HasPrefix.calls (a0 : ByteArray) (a1 : ByteArray) (r : Bool) (w : World) (h : strings_HasPrefix.f a0 a1 = some r) :
  Calls Try.prog 90 #[.string a0, .string a1] w fun e w' => e = .returned (.bool r) ∧ Drawn0 w w' := by
 have hr : r = (decide (a1.size ≤ a0.size) && ((a0.extract 0 a1.size).toList == a1.toList)) := by
  rw [Lib.hasPrefix_raw]; exact (Option.some.inj h).symm
 have HR := Aside0.mk hr
 clear hr h
 go_enter Try.func90, Try.ntmps90
 go_wp2
 ·rename_i h
  go_ret
  refine ⟨?_, Drawn0.refl _⟩
  have h2 : decide (a1.size ≤ a0.size) = true := by simpa using h
  rw [HR.out, h2, Bool.true_and]; rfl
 ·rename_i h
  go_ret
  refine ⟨?_, Drawn0.refl _⟩
  have h2 : decide (a1.size ≤ a0.size) = false := by simpa using h
  rw [HR.out, h2, Bool.false_and]; rfl

/-! ### id_Right: function 79 -/
def id_Right.f (a0 : ByteArray) : Option Bool := some (rightB a0)
set_option maxHeartbeats 800000 in
set_option maxRecDepth 100000 in
theorem id_Right.mid (a0 : ByteArray) (r : Bool) (w : World) (hp1 : (({ data := #[48] } : ByteArray).data.toList.isPrefixOf a0.data.toList) = true) (h1 : 1 ≤ a0.size) (h6 : a0.size ≤ 6) (hr : Aside0 ((a0.extract 1 a0.size).data.toList.all okDigit = r)) :
  Calls Try.prog 79 #[.string a0] w fun e w' => e = .returned (.bool r) ∧ Below w.heap.size w w' := by
 have hc0 : decide (6 < (a0.size : Int)) = false := by simp; omega
 have hcv := fun W => Lib.run_convert_string_bytes (P := Try.prog) W 36 133 5 (a0.extract 1 a0.size) Try.underlying36 Try.underlying133 Try.underlying5
 have hes : (a0.extract 1 a0.size).size = a0.size - 1 := by simp [ByteArray.size_extract]
 have hx : (a0.extract 1 a0.size).size ≤ 5 := by omega
 have hpre : strings_HasPrefix.f a0 ⟨#[48]⟩ = some true := congrArg some hp1
 generalize hs : a0.extract 1 a0.size = s at hcv hes hx hr ⊢
 have HP := Aside0.mk hpre
 clear hpre
 go_enter Try.func79, Try.ntmps79
 go_wp2_with (first | (go_at_call 90; refine (strings_HasPrefix.calls _ _ true _ HP.out).mono ?_; rintro e w' ⟨rfl, ⟨nd, rfl⟩⟩))
 have HC := Aside0.mk (show ∀ j, j < s.size → (Lib.bytesWorld (w.drewN nd) 5 s).cell? ⟨w.heap.size, j, none⟩ = some (.int .u8 (s.data.toList.getD j 0).toNat) from fun j hj => Lib.bytesWorld_cell (w.drewN nd) 5 s j hj)
 have HB := Aside0.mk (below_bytesWorldN w nd 5 s)
 clear hcv
 generalize Lib.bytesWorld (w.drewN nd) 5 s = W at HB HC ⊢
 have HL := Aside0.mk (show s.data.toList.length = s.size by simp)
 clear hs
 go_loop [4, 17] (fun _ i => ∃ k : Nat, k ≤ s.size ∧ i = .int .i64 k ∧ Aside0 ((s.data.toList.take k).all okDigit = true)) (fun _ i => s.size - (intOf i).toNat)
 case atStart => exact ⟨0, Nat.zero_le _, rfl, ⟨by simp⟩⟩
 case round =>
  obtain ⟨k, hk, rfl, HA⟩ := hrel
  by_cases hlt : k < s.size
  ·have hc := HC.out k hlt
   have hks : s.data.toList.getD k 0 = s.data.toList[k]'(by simpa using hlt) := by simp [List.getD, hlt]
   have hsn : (s.data.toList.take (k + 1)).all okDigit = okDigit (s.data.toList.getD k 0) := by
    rw [List.take_succ_eq_append_getElem (by simpa using hlt), List.all_append, HA.out, hks]; simp
   have hno : okDigit (s.data.toList.getD k 0) = false → s.data.toList.all okDigit = false := by
    intro h; rw [hks] at h
    rw [List.all_eq_false]; exact ⟨s.data.toList[k]'(by simpa using hlt), List.getElem_mem _, by rw [h]; decide⟩
   generalize s.data.toList.getD k 0 = c at hc hsn hks hno
   by_cases hd : okDigit c = true
   ·obtain ⟨h48, h57⟩ := u8_digit hd
    rw [hd] at hsn
    have HN := Aside0.mk hsn
    clear hsn hd hks hno
    go_wp2
    go_round
    case rel => exact ⟨k + 1, by omega, by go_num, HN⟩
    case measure => simp [intOf]; omega
   ·have HN := Aside0.mk (hno (by simpa using hd))
    have hdd := u8_nodigit hd
    clear hsn hks hno hd
    have fin : r = false := by rw [← hr.out, HN.out]
    subst fin
    rcases hdd with hdd | hdd
    ·have hdd' : decide ((c.toNat : Int) ≤ 48) = true := decide_eq_true hdd
     clear hdd
     go_wp2
     go_ret
     exact ⟨rfl, HB.out⟩
    ·have hdd' : decide ((57 : Int) < c.toNat) = true := decide_eq_true hdd
     clear hdd
     go_wp2
     all_goals (go_ret; exact ⟨rfl, HB.out⟩)
  ·have e : k = s.size := by omega
   have hall : s.data.toList.all okDigit = true := by
    have := HA.out; rwa [e, ← HL.out, List.take_length] at this
   have fin : r = true := by rw [← hr.out, hall]
   clear hall e
   subst fin
   have hge : decide ((k : Int) < (s.size : Int)) = false := by simp; omega
   go_wp2
   go_ret
   exact ⟨rfl, HB.out⟩

set_option maxHeartbeats 800000 in
set_option maxRecDepth 100000 in
theorem id_Right.calls (a0 : ByteArray) (r : Bool) (w : World) (h : id_Right.f a0 = some r) :
  Calls Try.prog 79 #[.string a0] w fun e w' => e = .returned (.bool r) ∧ Below w.heap.size w w' := by
 have hr : rightB a0 = r := Option.some.inj h
 clear h
 unfold rightB at hr
 by_cases hp1 : (({ data := #[48] } : ByteArray).data.toList.isPrefixOf a0.data.toList) = true
 ·have h1 : 1 ≤ a0.size := by
   cases e : a0.data.toList with
   | nil => rw [e] at hp1; simp [List.isPrefixOf] at hp1
   | cons c t =>
    have : a0.data.toList.length = t.length + 1 := by rw [e]; rfl
    have h2 : a0.data.toList.length = a0.size := by simp
    omega
  by_cases h6 : a0.size ≤ 6
  ·exact id_Right.mid a0 r w hp1 h1 h6 ⟨by rw [← hr, hp1, decide_eq_true h6]; simp⟩
  ·have fin : r = false := by rw [← hr, decide_eq_false h6]; simp
   subst fin
   clear hr
   have HP := Aside0.mk (show strings_HasPrefix.f a0 ⟨#[48]⟩ = some true from congrArg some hp1)
   clear hp1
   have hc0 : decide (6 < (a0.size : Int)) = true := by simp; omega
   go_enter Try.func79, Try.ntmps79
   go_wp2_with (first | (go_at_call 90; refine (strings_HasPrefix.calls _ _ true _ HP.out).mono ?_; rintro e w' ⟨rfl, ⟨nd, rfl⟩⟩))
   go_ret
   exact ⟨rfl, pw_below_drewN (Below.refl _ _) _⟩
 ·have hpf : (({ data := #[48] } : ByteArray).data.toList.isPrefixOf a0.data.toList) = false := (Bool.not_eq_true _).mp hp1
  have fin : r = false := by rw [← hr, hpf]; rfl
  subst fin
  clear hr
  have HP := Aside0.mk (show strings_HasPrefix.f a0 ⟨#[48]⟩ = some false from congrArg some hpf)
  clear hp1 hpf
  go_enter Try.func79, Try.ntmps79
  go_wp2_with (first | (go_at_call 90; refine (strings_HasPrefix.calls _ _ false _ HP.out).mono ?_; rintro e w' ⟨rfl, ⟨nd, rfl⟩⟩))
  go_ret
  exact ⟨rfl, pw_below_drewN (Below.refl _ _) _⟩

/-! ### item_Version_right: function 62 -/
theorem zq62_0 {p_ : Prop} (h_ : p_ := by rw [hg]; exact (below_size (by repeat (first | (with_reducible first | exact HB.out | apply below_alloc | apply pw_below_drewN | apply below_drew1) | exact HB.out)))) : p_ := h_
theorem zq62_1 {p_ : Prop} (h_ : p_ := by repeat (first | (with_reducible first | exact HB.out | apply below_alloc | apply pw_below_drewN | apply below_drew1 | refine below_set ?_ GE203.out) | exact HB.out)) : p_ := h_
theorem zq62_2 {p_ : Prop} (h_ : p_ := by (try simp only [List.map_toArray, List.map_cons, List.map_nil]); first | done | rfl | (simp only [List.length_drop, List.length_take]; rfl)) : p_ := h_
theorem zq62_3 {p_ : Prop} (h_ : p_ := by repeat (first | (with_reducible first | exact HB.out | apply below_alloc | apply pw_below_drewN | apply below_drew1) | exact HB.out)) : p_ := h_
theorem zq62_4 {p_ : Prop} (h_ : p_ := by (with_reducible repeat (first | refine blk_drewN ?_ _ | refine blk_drew ?_ | refine blk_alloc ?_ _)); exact BK203.out) : p_ := h_
def item_Version_right.f (a0_0 : ByteArray) (a0_1 : Int) (a0_2 : Int) : Option (Bool) := (id_Right.f a0_0).bind fun t204 => (if t204 = true then (if a0_1 ≥ 1 then (if a0_1 ≤ 1048576 then (if a0_2 ≥ 1 then (some (decide (a0_2 ≤ 1048576))) else (some false)) else (some false)) else (some false)) else (some false))
set_option maxHeartbeats 8000000 in
set_option maxRecDepth 100000 in
theorem item_Version_right.calls (a0_0 : ByteArray) (a0_1 : Int) (a0_2 : Int) (r : Bool) (w : World) (h : item_Version_right.f a0_0 a0_1 a0_2 = some r) :
  Calls Try.prog 62 #[.agg #[.string a0_0, .int .i64 a0_1, .int .i64 a0_2]] w fun e w' => e = .returned (.bool r) ∧ Below w.heap.size w w' := by
 have hu38 := Try.underlying38
 have HB := Aside0.mk (Below.refl w.heap.size w)
 have H := h
 unfold item_Version_right.f at H
 clear h
 replace H := Option.bind_eq_some_iff.mp H
 obtain ⟨t204, A20, H⟩ := H
 have A2 := Aside0.mk A20
 clear A20
 by_cases c3 : t204 = true
 ·subst c3
  have H1 : (if a0_1 ≥ 1 then (if a0_1 ≤ 1048576 then (if a0_2 ≥ 1 then (some (decide (a0_2 ≤ 1048576))) else (some false)) else (some false)) else (some false)) = some r := by rw [if_pos rfl] at H; exact H
  clear H
  have H := H1
  clear H1
  by_cases c4 : a0_1 ≥ 1
  ·rw [if_pos c4] at H
   have c4b0 : decide (1 ≤ a0_1) = true := decide_eq_true c4
   clear c4
   by_cases c5 : a0_1 ≤ 1048576
   ·rw [if_pos c5] at H
    have c5b0 : decide (a0_1 ≤ 1048576) = true := decide_eq_true c5
    clear c5
    by_cases c6 : a0_2 ≥ 1
    ·rw [if_pos c6] at H
     have c6b0 : decide (1 ≤ a0_2) = true := decide_eq_true c6
     clear c6
     obtain rfl := Option.some.inj H
     go_enter Try.func62, Try.ntmps62
     go_wp2_with (first | ((with_reducible refine gate_dst (N := 1) rfl ?_); refine box_event ?hg (N := 1) ?hd (cs := #[.string a0_0, .int .i64 a0_1, .int .i64 a0_2]) (t := 38) ?hr ?_; (case hd => rfl); (case hg => rfl); (case hr => first | (go_simp; done) | (go_simp; rfl)); intro gb203 hg w7 hbox hb; have BK203 := Aside0.mk (hbox); have GW203 := Aside0.mk ((zq62_0 : w.heap.size ≤ gb203)); have GE203 := Aside0.mk ((zq62_0 : w.heap.size ≤ gb203)); replace HB := Aside0.mk (below_step zq62_3 hb); clear hb hbox hg; have hcz8_0 : w7.cell? ⟨gb203, 0, none⟩ = some (.string a0_0) := (blk_cell BK203.out 0).trans rfl; have hcz8_1 : w7.cell? ⟨gb203, 1, none⟩ = some (.int .i64 a0_1) := (blk_cell BK203.out 1).trans rfl; have hcz8_2 : w7.cell? ⟨gb203, 2, none⟩ = some (.int .i64 a0_2) := (blk_cell BK203.out 2).trans rfl; have hfz8_0 := blk_frozen BK203.out 0; have hfz8_1 := blk_frozen BK203.out 1; have hfz8_2 := blk_frozen BK203.out 2) | ((with_reducible refine gate_callee (f := 79) rfl ?_); refine goesL_ (some 5) rfl rfl Try.func79 (by kernel_rfl) rfl #[.string a0_0] rfl zq62_2 ?_; (with_reducible refine (id_Right.calls a0_0 true _ A2.out).mono ?_); rintro e w9 ⟨rfl, hb⟩; refine ⟨_, rfl, ?_⟩; replace BK203 := Aside0.mk (blk_below (g := gb203) (o := .cells #[.string a0_0, .int .i64 a0_1, .int .i64 a0_2] 38 (0, 0)) zq62_4 hb); replace HB := Aside0.mk (below_step zq62_1 hb); (try clear hb); (try clear hb2); (try clear hk); (try clear hi); have hcz10_0 : w9.cell? ⟨gb203, 0, none⟩ = some (.string a0_0) := (blk_cell BK203.out 0).trans rfl; have hcz10_1 : w9.cell? ⟨gb203, 1, none⟩ = some (.int .i64 a0_1) := (blk_cell BK203.out 1).trans rfl; have hcz10_2 : w9.cell? ⟨gb203, 2, none⟩ = some (.int .i64 a0_2) := (blk_cell BK203.out 2).trans rfl; have hfz10_0 := blk_frozen BK203.out 0; have hfz10_1 := blk_frozen BK203.out 1; have hfz10_2 := blk_frozen BK203.out 2))
     go_ret
     exact ⟨by first | rfl | (simp [errW_none, errW_some] <;> rfl) | (simp [*, errW_none, errW_some] <;> rfl), by repeat (first | (with_reducible first | exact HB.out | apply below_alloc | apply pw_below_drewN | apply below_drew1 | refine below_set ?_ GE203.out) | exact HB.out)⟩
    ·rw [if_neg c6] at H
     have c6b0 : decide (1 ≤ a0_2) = false := decide_eq_false c6
     clear c6
     obtain rfl := Option.some.inj H
     go_enter Try.func62, Try.ntmps62
     go_wp2_with (first | ((with_reducible refine gate_dst (N := 1) rfl ?_); refine box_event ?hg (N := 1) ?hd (cs := #[.string a0_0, .int .i64 a0_1, .int .i64 a0_2]) (t := 38) ?hr ?_; (case hd => rfl); (case hg => rfl); (case hr => first | (go_simp; done) | (go_simp; rfl)); intro gb203 hg w11 hbox hb; have BK203 := Aside0.mk (hbox); have GW203 := Aside0.mk ((zq62_0 : w.heap.size ≤ gb203)); have GE203 := Aside0.mk ((zq62_0 : w.heap.size ≤ gb203)); replace HB := Aside0.mk (below_step zq62_3 hb); clear hb hbox hg; have hcz12_0 : w11.cell? ⟨gb203, 0, none⟩ = some (.string a0_0) := (blk_cell BK203.out 0).trans rfl; have hcz12_1 : w11.cell? ⟨gb203, 1, none⟩ = some (.int .i64 a0_1) := (blk_cell BK203.out 1).trans rfl; have hcz12_2 : w11.cell? ⟨gb203, 2, none⟩ = some (.int .i64 a0_2) := (blk_cell BK203.out 2).trans rfl; have hfz12_0 := blk_frozen BK203.out 0; have hfz12_1 := blk_frozen BK203.out 1; have hfz12_2 := blk_frozen BK203.out 2) | ((with_reducible refine gate_callee (f := 79) rfl ?_); refine goesL_ (some 5) rfl rfl Try.func79 (by kernel_rfl) rfl #[.string a0_0] rfl zq62_2 ?_; (with_reducible refine (id_Right.calls a0_0 true _ A2.out).mono ?_); rintro e w13 ⟨rfl, hb⟩; refine ⟨_, rfl, ?_⟩; replace BK203 := Aside0.mk (blk_below (g := gb203) (o := .cells #[.string a0_0, .int .i64 a0_1, .int .i64 a0_2] 38 (0, 0)) zq62_4 hb); replace HB := Aside0.mk (below_step zq62_1 hb); (try clear hb); (try clear hb2); (try clear hk); (try clear hi); have hcz14_0 : w13.cell? ⟨gb203, 0, none⟩ = some (.string a0_0) := (blk_cell BK203.out 0).trans rfl; have hcz14_1 : w13.cell? ⟨gb203, 1, none⟩ = some (.int .i64 a0_1) := (blk_cell BK203.out 1).trans rfl; have hcz14_2 : w13.cell? ⟨gb203, 2, none⟩ = some (.int .i64 a0_2) := (blk_cell BK203.out 2).trans rfl; have hfz14_0 := blk_frozen BK203.out 0; have hfz14_1 := blk_frozen BK203.out 1; have hfz14_2 := blk_frozen BK203.out 2))
     go_ret
     exact ⟨by first | rfl | (simp [errW_none, errW_some] <;> rfl) | (simp [*, errW_none, errW_some] <;> rfl), by repeat (first | (with_reducible first | exact HB.out | apply below_alloc | apply pw_below_drewN | apply below_drew1 | refine below_set ?_ GE203.out) | exact HB.out)⟩
   ·rw [if_neg c5] at H
    have c5b0 : decide (a0_1 ≤ 1048576) = false := decide_eq_false c5
    clear c5
    obtain rfl := Option.some.inj H
    go_enter Try.func62, Try.ntmps62
    go_wp2_with (first | ((with_reducible refine gate_dst (N := 1) rfl ?_); refine box_event ?hg (N := 1) ?hd (cs := #[.string a0_0, .int .i64 a0_1, .int .i64 a0_2]) (t := 38) ?hr ?_; (case hd => rfl); (case hg => rfl); (case hr => first | (go_simp; done) | (go_simp; rfl)); intro gb203 hg w15 hbox hb; have BK203 := Aside0.mk (hbox); have GW203 := Aside0.mk ((zq62_0 : w.heap.size ≤ gb203)); have GE203 := Aside0.mk ((zq62_0 : w.heap.size ≤ gb203)); replace HB := Aside0.mk (below_step zq62_3 hb); clear hb hbox hg; have hcz16_0 : w15.cell? ⟨gb203, 0, none⟩ = some (.string a0_0) := (blk_cell BK203.out 0).trans rfl; have hcz16_1 : w15.cell? ⟨gb203, 1, none⟩ = some (.int .i64 a0_1) := (blk_cell BK203.out 1).trans rfl; have hcz16_2 : w15.cell? ⟨gb203, 2, none⟩ = some (.int .i64 a0_2) := (blk_cell BK203.out 2).trans rfl; have hfz16_0 := blk_frozen BK203.out 0; have hfz16_1 := blk_frozen BK203.out 1; have hfz16_2 := blk_frozen BK203.out 2) | ((with_reducible refine gate_callee (f := 79) rfl ?_); refine goesL_ (some 5) rfl rfl Try.func79 (by kernel_rfl) rfl #[.string a0_0] rfl zq62_2 ?_; (with_reducible refine (id_Right.calls a0_0 true _ A2.out).mono ?_); rintro e w17 ⟨rfl, hb⟩; refine ⟨_, rfl, ?_⟩; replace BK203 := Aside0.mk (blk_below (g := gb203) (o := .cells #[.string a0_0, .int .i64 a0_1, .int .i64 a0_2] 38 (0, 0)) zq62_4 hb); replace HB := Aside0.mk (below_step zq62_1 hb); (try clear hb); (try clear hb2); (try clear hk); (try clear hi); have hcz18_0 : w17.cell? ⟨gb203, 0, none⟩ = some (.string a0_0) := (blk_cell BK203.out 0).trans rfl; have hcz18_1 : w17.cell? ⟨gb203, 1, none⟩ = some (.int .i64 a0_1) := (blk_cell BK203.out 1).trans rfl; have hcz18_2 : w17.cell? ⟨gb203, 2, none⟩ = some (.int .i64 a0_2) := (blk_cell BK203.out 2).trans rfl; have hfz18_0 := blk_frozen BK203.out 0; have hfz18_1 := blk_frozen BK203.out 1; have hfz18_2 := blk_frozen BK203.out 2))
    go_ret
    exact ⟨by first | rfl | (simp [errW_none, errW_some] <;> rfl) | (simp [*, errW_none, errW_some] <;> rfl), by repeat (first | (with_reducible first | exact HB.out | apply below_alloc | apply pw_below_drewN | apply below_drew1 | refine below_set ?_ GE203.out) | exact HB.out)⟩
  ·rw [if_neg c4] at H
   have c4b0 : decide (1 ≤ a0_1) = false := decide_eq_false c4
   clear c4
   obtain rfl := Option.some.inj H
   go_enter Try.func62, Try.ntmps62
   go_wp2_with (first | ((with_reducible refine gate_dst (N := 1) rfl ?_); refine box_event ?hg (N := 1) ?hd (cs := #[.string a0_0, .int .i64 a0_1, .int .i64 a0_2]) (t := 38) ?hr ?_; (case hd => rfl); (case hg => rfl); (case hr => first | (go_simp; done) | (go_simp; rfl)); intro gb203 hg w19 hbox hb; have BK203 := Aside0.mk (hbox); have GW203 := Aside0.mk ((zq62_0 : w.heap.size ≤ gb203)); have GE203 := Aside0.mk ((zq62_0 : w.heap.size ≤ gb203)); replace HB := Aside0.mk (below_step zq62_3 hb); clear hb hbox hg; have hcz20_0 : w19.cell? ⟨gb203, 0, none⟩ = some (.string a0_0) := (blk_cell BK203.out 0).trans rfl; have hcz20_1 : w19.cell? ⟨gb203, 1, none⟩ = some (.int .i64 a0_1) := (blk_cell BK203.out 1).trans rfl; have hcz20_2 : w19.cell? ⟨gb203, 2, none⟩ = some (.int .i64 a0_2) := (blk_cell BK203.out 2).trans rfl; have hfz20_0 := blk_frozen BK203.out 0; have hfz20_1 := blk_frozen BK203.out 1; have hfz20_2 := blk_frozen BK203.out 2) | ((with_reducible refine gate_callee (f := 79) rfl ?_); refine goesL_ (some 5) rfl rfl Try.func79 (by kernel_rfl) rfl #[.string a0_0] rfl zq62_2 ?_; (with_reducible refine (id_Right.calls a0_0 true _ A2.out).mono ?_); rintro e w21 ⟨rfl, hb⟩; refine ⟨_, rfl, ?_⟩; replace BK203 := Aside0.mk (blk_below (g := gb203) (o := .cells #[.string a0_0, .int .i64 a0_1, .int .i64 a0_2] 38 (0, 0)) zq62_4 hb); replace HB := Aside0.mk (below_step zq62_1 hb); (try clear hb); (try clear hb2); (try clear hk); (try clear hi); have hcz22_0 : w21.cell? ⟨gb203, 0, none⟩ = some (.string a0_0) := (blk_cell BK203.out 0).trans rfl; have hcz22_1 : w21.cell? ⟨gb203, 1, none⟩ = some (.int .i64 a0_1) := (blk_cell BK203.out 1).trans rfl; have hcz22_2 : w21.cell? ⟨gb203, 2, none⟩ = some (.int .i64 a0_2) := (blk_cell BK203.out 2).trans rfl; have hfz22_0 := blk_frozen BK203.out 0; have hfz22_1 := blk_frozen BK203.out 1; have hfz22_2 := blk_frozen BK203.out 2))
   go_ret
   exact ⟨by first | rfl | (simp [errW_none, errW_some] <;> rfl) | (simp [*, errW_none, errW_some] <;> rfl), by repeat (first | (with_reducible first | exact HB.out | apply below_alloc | apply pw_below_drewN | apply below_drew1 | refine below_set ?_ GE203.out) | exact HB.out)⟩
 ·replace c3 := Bool.eq_false_iff.mpr c3
  subst c3
  have H1 : (some false) = some r := by rw [if_neg (show ¬ (false = true) by decide)] at H; exact H
  clear H
  have H := H1
  clear H1
  obtain rfl := Option.some.inj H
  go_enter Try.func62, Try.ntmps62
  go_wp2_with (first | ((with_reducible refine gate_dst (N := 1) rfl ?_); refine box_event ?hg (N := 1) ?hd (cs := #[.string a0_0, .int .i64 a0_1, .int .i64 a0_2]) (t := 38) ?hr ?_; (case hd => rfl); (case hg => rfl); (case hr => first | (go_simp; done) | (go_simp; rfl)); intro gb203 hg w23 hbox hb; have BK203 := Aside0.mk (hbox); have GW203 := Aside0.mk ((zq62_0 : w.heap.size ≤ gb203)); have GE203 := Aside0.mk ((zq62_0 : w.heap.size ≤ gb203)); replace HB := Aside0.mk (below_step zq62_3 hb); clear hb hbox hg; have hcz24_0 : w23.cell? ⟨gb203, 0, none⟩ = some (.string a0_0) := (blk_cell BK203.out 0).trans rfl; have hcz24_1 : w23.cell? ⟨gb203, 1, none⟩ = some (.int .i64 a0_1) := (blk_cell BK203.out 1).trans rfl; have hcz24_2 : w23.cell? ⟨gb203, 2, none⟩ = some (.int .i64 a0_2) := (blk_cell BK203.out 2).trans rfl; have hfz24_0 := blk_frozen BK203.out 0; have hfz24_1 := blk_frozen BK203.out 1; have hfz24_2 := blk_frozen BK203.out 2) | ((with_reducible refine gate_callee (f := 79) rfl ?_); refine goesL_ (some 5) rfl rfl Try.func79 (by kernel_rfl) rfl #[.string a0_0] rfl zq62_2 ?_; (with_reducible refine (id_Right.calls a0_0 false _ A2.out).mono ?_); rintro e w25 ⟨rfl, hb⟩; refine ⟨_, rfl, ?_⟩; replace BK203 := Aside0.mk (blk_below (g := gb203) (o := .cells #[.string a0_0, .int .i64 a0_1, .int .i64 a0_2] 38 (0, 0)) zq62_4 hb); replace HB := Aside0.mk (below_step zq62_1 hb); (try clear hb); (try clear hb2); (try clear hk); (try clear hi)))
  go_ret
  exact ⟨by first | rfl | (simp [errW_none, errW_some] <;> rfl) | (simp [*, errW_none, errW_some] <;> rfl), by repeat (first | (with_reducible first | exact HB.out | apply below_alloc | apply pw_below_drewN | apply below_drew1 | refine below_set ?_ GE203.out) | exact HB.out)⟩

/-! ### zone_Whole: function 63 -/
theorem trunc_run {P : Program} {w : World} {b c : Nat} {neg : Bool} {m : Nat} {p : Int} (nm : String) (h : FloatKind.f64.decode b = .number neg m p) (h1 : FloatKind.f64.encode (Ieee.Datum.integral .zero (.number neg m p)) = c) : ((Extern.MathFloor.toIntegral nm .zero) #[.float .f64 b]).run P w = .ok (.float .f64 c) w := by
 subst h1
 have e : (Extern.MathFloor.toIntegral nm .zero) #[.float .f64 b] = (match FloatKind.f64.decode b with
  | .nan s t =>
   if FloatKind.f64.format.quiet t = t then pure (.float .f64 b) else do
   let kept ← choose (.extern "math.Floor,Ceil,Trunc,RoundToEven.signallingNaN kept" 2)
   pure (.float .f64 (if kept == 1 then b else FloatKind.f64.encode (.nan s (FloatKind.f64.format.quiet t))))
  | d => pure (.float .f64 (FloatKind.f64.encode (d.integral .zero)))) := rfl
 rw [e, h]
 rfl
set_option maxHeartbeats 800000 in
set_option maxRecDepth 100000 in
theorem it_trunc (n : Int) (w : World) (h : n.natAbs < 2 ^ 53) : Calls Try.prog 91 #[.float .f64 (fl n)] w fun e w' => e = .returned (.float .f64 (fl n)) ∧ w' = w := by
 obtain ⟨q, hq, -⟩ := fl_read n h
 have hb := fl_back n h
 have HQ := Aside0.mk hq
 have HBK := Aside0.mk hb
 clear hq hb
 go_enter Try.func91, Try.ntmps91
 go_wp2
 rw [run_callFunc_extern Try.func97 (by kernel_rfl) (by kernel_rfl) (by kernel_rfl) (e := Extern.MathFloor.toIntegral "math.archTrunc" .zero) (by kernel_rfl)]
 have hrun : ((Extern.MathFloor.toIntegral "math.archTrunc" .zero) #[.float .f64 (fl n)]).run Try.prog w = .ok (.float .f64 (fl n)) w := by
  have h1 := HBK.out
  rw [HQ.out] at h1
  exact trunc_run "math.archTrunc" HQ.out h1
 rw [hrun]
 simp only [Result.andThen]
 rw [Oper.upon_value]
 go_wp2
 go_ret
 exact ⟨rfl, rfl⟩
set_option maxHeartbeats 800000 in
set_option maxRecDepth 100000 in
theorem it_wholeTo (x lo hi : Int) (w : World) (h : x.natAbs < 2 ^ 53) (h1 : lo.natAbs < 2 ^ 53) (h2 : hi.natAbs < 2 ^ 53) : Calls Try.prog 80 #[.float .f64 (fl x), .float .f64 (fl lo), .float .f64 (fl hi)] w fun e w' => e = .returned (.bool (decide (lo ≤ x ∧ x ≤ hi))) ∧ Below w.heap.size w w' := by
 have g1 := fl_ge x lo h h1
 have g2 := fl_le x hi h h2
 have g3 := fl_eq x x h h
 rw [decide_eq_true rfl] at g3
 have HT := Aside0.mk (it_trunc x w h)
 by_cases c1 : lo ≤ x
 rotate_left
 ·rw [decide_eq_false c1] at g1
  rw [decide_eq_false (fun h => c1 h.1)]
  clear g2 g3
  go_enter Try.func80, Try.ntmps80
  go_wp2_with fail
  go_ret
  exact ⟨rfl, Below.refl _ _⟩
 rw [decide_eq_true c1] at g1
 by_cases c2 : x ≤ hi
 rotate_left
 ·rw [decide_eq_false c2] at g2
  rw [decide_eq_false (fun h => c2 h.2)]
  clear g3
  go_enter Try.func80, Try.ntmps80
  go_wp2_with fail
  go_ret
  exact ⟨rfl, Below.refl _ _⟩
 rw [decide_eq_true c2] at g2
 rw [decide_eq_true ⟨c1, c2⟩]
 clear c1 c2
 go_enter Try.func80, Try.ntmps80
 go_wp2_with fail
 refine HT.out.mono ?_
 rintro e w1 ⟨rfl, rfl⟩
 clear HT
 go_wp2_with fail
 go_ret
 exact ⟨rfl, Below.refl _ _⟩
theorem fl_lo : (13875379345695965184 : Nat) = fl (-1000) := by decide +kernel
theorem fl_hi : (4652007308841189376 : Nat) = fl 1000 := by decide +kernel
theorem fl_0 : (0 : Nat) = fl 0 := by decide +kernel
/-- May a place be? -/
def spotOk (x y : Int) : Bool := decide (-1000 ≤ x ∧ x ≤ 1000) && decide (-1000 ≤ y ∧ y ≤ 1000)
set_option maxHeartbeats 800000 in
set_option maxRecDepth 100000 in
theorem it_whole (x y : Int) (w : World) (h : x.natAbs < 2 ^ 53) (h1 : y.natAbs < 2 ^ 53) : Calls Try.prog 63 #[.complex .f64 (fl x) (fl y)] w fun e w' => e = .returned (.bool (spotOk x y)) ∧ Below w.heap.size w w' := by
 have H1 := Aside0.mk (fun (W : World) => it_wholeTo x (-1000) 1000 W h (by omega) (by omega))
 have H2 := Aside0.mk (fun (W : World) => it_wholeTo y (-1000) 1000 W h1 (by omega) (by omega))
 rw [← fl_lo, ← fl_hi] at H1 H2
 unfold spotOk
 generalize decide (-1000 ≤ x ∧ x ≤ 1000) = b1 at H1 ⊢
 generalize decide (-1000 ≤ y ∧ y ≤ 1000) = b2 at H2 ⊢
 go_enter Try.func63, Try.ntmps63
 go_wp2_with fail
 refine (H1.out _).mono ?_
 rintro e w1 ⟨rfl, hb⟩
 have HB := Aside0.mk hb
 clear hb H1
 cases b1 with
 | false =>
  go_wp2_with fail
  go_ret
  exact ⟨rfl, HB.out⟩
 | true =>
  go_wp2_with fail
  refine (H2.out _).mono ?_
  rintro e w2 ⟨rfl, hb⟩
  replace HB := Aside0.mk (below_step HB.out hb)
  clear hb H2
  go_wp2_with fail
  go_ret
  exact ⟨rfl, HB.out⟩
/-! ### item_Right: function 41 -/
attribute [local go_sem] run_store_complex
/-- May an item be? -/
def itRight (k : Int) (i : ByteArray) (q s : Int) (d : Bool) (x y : Int) (t : ByteArray) (h : Bool) : Option Bool :=
 if k < 0 then some false else if 32 ≤ k then some false else (item_Version_right.f i q s).bind fun v => if v = false then some false else if spotOk x y = false then some false else if 16 < (t.size : Int) then some false
  else if d = true ∧ (h = true ∨ ¬ (x = 0 ∧ y = 0)) then some false else if h = true then some true else some t.toList.isEmpty
theorem it_spot0 (x y : Int) (hx : x.natAbs < 2 ^ 53) (hy : y.natAbs < 2 ^ 53) : ((FloatKind.f64.format.order (fl x) 0 == some .eq) && (FloatKind.f64.format.order (fl y) 0 == some .eq)) = decide (x = 0 ∧ y = 0) := by
 rw [fl_0, fl_eq x 0 hx (by decide), fl_eq y 0 hy (by decide)]
 by_cases h1 : x = 0 <;> by_cases h2 : y = 0 <;> simp [h1, h2]
set_option maxHeartbeats 800000 in
set_option maxRecDepth 100000 in
theorem it_right (k : Int) (i : ByteArray) (q s : Int) (d : Bool) (x y : Int) (t : ByteArray) (h : Bool) (r : Bool) (w : World) (hx : x.natAbs < 2 ^ 53) (hy : y.natAbs < 2 ^ 53) (hr : itRight k i q s d x y t h = some r) : Calls Try.prog 41 #[.agg (itC k i q s d x y t h)] w fun e w' => e = .returned (.bool r) ∧ Below w.heap.size w w' := by
 have HR := Aside0.mk hr
 clear hr
 rw [itRight] at HR
 have HW := Aside0.mk (fun (W : World) => it_whole x y W hx hy)
 have HS := Aside0.mk (it_spot0 x y hx hy)
 clear hx hy
 generalize spotOk x y = so at HR HW
 have BK := Aside0.mk (blk_new w (.cells (itC k i q s d x y t h) 41))
 have HB := Aside0.mk (below_alloc (Below.refl w.heap.size w) (.cells (itC k i q s d x y t h) 41))
 by_cases c1 : k < 0
 ·have e1 : decide (k < 0) = true := decide_eq_true c1
  replace HR := Aside0.mk ((if_pos c1).symm.trans HR.out)
  obtain rfl := Option.some.inj HR.out
  clear HR
  go_enter Try.func41, Try.ntmps41
  go_wp2_with fail
  go_ret
  exact ⟨rfl, HB.out⟩
 replace HR := Aside0.mk ((if_neg c1).symm.trans HR.out)
 have e1 : decide (k < 0) = false := decide_eq_false c1
 by_cases c2 : 32 ≤ k
 ·have e2 : decide (32 ≤ k) = true := decide_eq_true c2
  replace HR := Aside0.mk ((if_pos c2).symm.trans HR.out)
  obtain rfl := Option.some.inj HR.out
  clear HR
  go_enter Try.func41, Try.ntmps41
  go_wp2_with fail
  go_ret
  exact ⟨rfl, HB.out⟩
 replace HR := Aside0.mk ((if_neg c2).symm.trans HR.out)
 have e2 : decide (32 ≤ k) = false := decide_eq_false c2
 obtain ⟨v, hv, h2⟩ := Option.bind_eq_some_iff.mp HR.out
 have HV := Aside0.mk hv
 replace HR := Aside0.mk h2
 clear hv h2
 go_enter Try.func41, Try.ntmps41
 go_wp2_with fail
 refine (item_Version_right.calls i q s v _ HV.out).mono ?_
 rintro e w1 ⟨rfl, hb⟩
 replace BK := Aside0.mk (blk_below BK.out hb)
 replace HB := Aside0.mk (below_step HB.out hb)
 obtain ⟨h0, h1, h2, h3, h4, h5, h6, h7⟩ := it_cells BK.out
 clear hb HV
 cases v with
 | false =>
  replace HR := Aside0.mk ((if_pos rfl).symm.trans HR.out)
  obtain rfl := Option.some.inj HR.out
  clear HR
  go_wp2_with fail
  go_ret
  exact ⟨rfl, HB.out⟩
 | true =>
  replace HR := Aside0.mk ((if_neg (by decide)).symm.trans HR.out)
  go_wp2_with fail
  refine (HW.out _).mono ?_
  rintro e w2 ⟨rfl, hb⟩
  clear h0 h1 h2 h3 h4 h5 h6 h7
  replace BK := Aside0.mk (blk_below BK.out hb)
  replace HB := Aside0.mk (below_step HB.out hb)
  obtain ⟨h0, h1, h2, h3, h4, h5, h6, h7⟩ := it_cells BK.out
  clear hb HW
  cases so with
  | false =>
   replace HR := Aside0.mk ((if_pos rfl).symm.trans HR.out)
   obtain rfl := Option.some.inj HR.out
   clear HR
   go_wp2_with fail
   go_ret
   exact ⟨rfl, HB.out⟩
  | true =>
   replace HR := Aside0.mk ((if_neg (by decide)).symm.trans HR.out)
   by_cases c3 : 16 < (t.size : Int)
   ·have e3 : decide (16 < (t.size : Int)) = true := decide_eq_true c3
    have e4 : decide (16 < t.size) = true := decide_eq_true (by omega)
    replace HR := Aside0.mk ((if_pos c3).symm.trans HR.out)
    obtain rfl := Option.some.inj HR.out
    clear HR
    go_wp2_with fail
    go_ret
    exact ⟨rfl, HB.out⟩
   replace HR := Aside0.mk ((if_neg c3).symm.trans HR.out)
   have e3 : decide (16 < (t.size : Int)) = false := decide_eq_false c3
   have e4 : decide (16 < t.size) = false := decide_eq_false (by omega)
   clear c3
   have hs := HS.out
   clear HS
   cases d with
   | true =>
    cases h with
    | true =>
     replace HR := Aside0.mk ((if_pos ⟨rfl, .inl rfl⟩).symm.trans HR.out)
     obtain rfl := Option.some.inj HR.out
     clear HR hs
     go_wp2_with fail
     go_ret
     exact ⟨rfl, HB.out⟩
    | false =>
     by_cases cz : x = 0 ∧ y = 0
     ·rw [decide_eq_true cz] at hs
      replace HR := Aside0.mk ((if_neg (fun hh => hh.2.elim (fun z => Bool.noConfusion z) (fun z => z cz))).symm.trans HR.out)
      replace HR := Aside0.mk ((if_neg (by decide)).symm.trans HR.out)
      obtain rfl := Option.some.inj HR.out
      clear HR cz
      go_wp2_with fail
      go_ret
      exact ⟨rfl, HB.out⟩
     ·rw [decide_eq_false cz] at hs
      replace HR := Aside0.mk ((if_pos ⟨rfl, .inr cz⟩).symm.trans HR.out)
      obtain rfl := Option.some.inj HR.out
      clear HR cz
      go_wp2_with fail
      go_ret
      exact ⟨rfl, HB.out⟩
   | false =>
    replace HR := Aside0.mk ((if_neg (fun hh => Bool.noConfusion hh.1)).symm.trans HR.out)
    cases h with
    | true =>
     replace HR := Aside0.mk ((if_pos rfl).symm.trans HR.out)
     obtain rfl := Option.some.inj HR.out
     clear HR hs
     go_wp2_with fail
     go_ret
     exact ⟨rfl, HB.out⟩
    | false =>
     replace HR := Aside0.mk ((if_neg (by decide)).symm.trans HR.out)
     obtain rfl := Option.some.inj HR.out
     clear HR hs
     go_wp2_with fail
     go_ret
     exact ⟨rfl, HB.out⟩
def item_Right.f (a0_0 : Int) (a0_1 : ByteArray) (a0_2 : Int) (a0_3 : Int) (a0_4 : Bool) (a0_5 : Cx) (a0_6 : ByteArray) (a0_7 : Bool) : Option Bool := (cxInt a0_5).bind fun p => itRight a0_0 a0_1 a0_2 a0_3 a0_4 p.1 p.2 a0_6 a0_7
theorem item_Right.calls (a0_0 : Int) (a0_1 : ByteArray) (a0_2 : Int) (a0_3 : Int) (a0_4 : Bool) (a0_5 : Cx) (a0_6 : ByteArray) (a0_7 : Bool) (r : Bool) (w : World) (h : item_Right.f a0_0 a0_1 a0_2 a0_3 a0_4 a0_5 a0_6 a0_7 = some r) :
  Calls Try.prog 41 #[.agg #[.int .i64 a0_0, .string a0_1, .int .i64 a0_2, .int .i64 a0_3, .bool a0_4, .complex .f64 a0_5.re a0_5.im, .string a0_6, .bool a0_7]] w fun e w' => e = .returned (.bool r) ∧ Below w.heap.size w w' := by
 unfold item_Right.f at h
 obtain ⟨⟨x, y⟩, hc, hh⟩ := Option.bind_eq_some_iff.mp h
 clear h
 obtain ⟨e, h1, h2⟩ := cxInt_some hc
 subst e
 exact it_right a0_0 a0_1 a0_2 a0_3 a0_4 x y a0_6 a0_7 r w h1 h2 hh

end Go.Proofs.Ytgdkgobplinelaa.P
