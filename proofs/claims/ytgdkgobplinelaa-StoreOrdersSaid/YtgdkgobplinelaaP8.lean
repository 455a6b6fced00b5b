-- Written by a program of this session (wip/pp.py over the kit's printer, with our own texts put in).
import Derived.Test.YtgdkgobplinelaaP0
import Derived.Test.YtgdkgobplinelaaP6
import Derived.Test.YtgdkgobplinelaaP7
namespace Go.Proofs.Ytgdkgobplinelaa.P
open Go.RowKit Go.Proofs.YtgdkgobplinelaaW.PrintWords Go.Proofs.YtgdkgobplinelaaW.PrintLast Go.Proofs.YtgdkgobplinelaaW.PrintMore
attribute [local go_sem] run_store_complex max2_int min2_int max_two min_two max_three min_three max_four min_four   -- for this text's walks alone
set_option linter.unusedVariables false
set_option linter.unusedSimpArgs false

/-! ### store_Right: function 19 -/
theorem zq19_0 {p_ : Prop} (h_ : p_ := by rw [hg]; exact (below_size (by repeat (first | (with_reducible first | exact HB.out | apply below_alloc | apply pw_below_drewN | apply below_drew1) | exact HB.out)))) : p_ := h_
theorem zq19_1 {p_ : Prop} (h_ : p_ := by repeat (first | (with_reducible first | exact HB.out | apply below_alloc | apply pw_below_drewN | apply below_drew1 | refine below_set ?_ GE206.out) | exact HB.out)) : p_ := h_
theorem zq19_2 {p_ : Prop} (h_ : p_ := by (try simp only [List.map_toArray, List.map_cons, List.map_nil]); first | done | rfl | (simp only [List.length_drop, List.length_take]; rfl)) : p_ := h_
theorem zq19_3 {p_ : Prop} (h_ : p_ := by repeat (first | (with_reducible first | exact HB.out | apply below_alloc | apply pw_below_drewN | apply below_drew1) | exact HB.out)) : p_ := h_
theorem zq19_4 {p_ : Prop} (h_ : p_ := by (with_reducible repeat (first | refine blk_drewN ?_ _ | refine blk_drew ?_ | refine blk_alloc ?_ _)); exact BK206.out) : p_ := h_
theorem zq19_5 {p_ : Prop} (h_ : p_ := by first | (with_reducible assumption) | assumption) : p_ := h_
theorem zq19_6 {p_ : Prop} (h_ : p_ := by first | rfl | (simp; done) | (simp [*]; done)) : p_ := h_
def store_Right.l0 : Nat → List (S41) → List (S41) → Int → Int → Option (Bool)
 | 0, _, _, _, _ => none
 | k + 1, x0, x5, x6, x7 => if x7 < x6 then (if 0 ≤ x7 then (if x7 < (x5.length : Int) then ((item_Right.f ((rd_T41 x5 x7).f0) ((rd_T41 x5 x7).f1.f0) ((rd_T41 x5 x7).f1.f1) ((rd_T41 x5 x7).f1.f2) ((rd_T41 x5 x7).f2) ((rd_T41 x5 x7).f3) ((rd_T41 x5 x7).f4) ((rd_T41 x5 x7).f5)).bind fun t207 => (if t207 = true then (if x7 > 0 then (if 0 ≤ (wrap64 (x7 - 1)) then (if (wrap64 (x7 - 1)) < (x0.length : Int) then ((store_order.f ((rd_T41 x0 (wrap64 (x7 - 1))).f0) ((rd_T41 x0 (wrap64 (x7 - 1))).f1.f0) ((rd_T41 x0 (wrap64 (x7 - 1))).f1.f1) ((rd_T41 x0 (wrap64 (x7 - 1))).f1.f2) ((rd_T41 x0 (wrap64 (x7 - 1))).f2) ((rd_T41 x0 (wrap64 (x7 - 1))).f3) ((rd_T41 x0 (wrap64 (x7 - 1))).f4) ((rd_T41 x0 (wrap64 (x7 - 1))).f5) ((rd_T41 x5 x7).f0) ((rd_T41 x5 x7).f1.f0) ((rd_T41 x5 x7).f1.f1) ((rd_T41 x5 x7).f1.f2) ((rd_T41 x5 x7).f2) ((rd_T41 x5 x7).f3) ((rd_T41 x5 x7).f4) ((rd_T41 x5 x7).f5)).bind fun t209 => (if t209 ≥ 0 then (some false) else (store_Right.l0 k x0 x5 x6 (wrap64 (x7 + 1))))) else (none)) else (none)) else (store_Right.l0 k x0 x5 x6 (wrap64 (x7 + 1)))) else (some false))) else (none)) else (none)) else (some true)
def store_Right.f (k : Nat) (l0 : List (S41)) : Option (Bool) := store_Right.l0 k l0 l0 (l0.length : Int) 0
theorem store_Right.mono_l : ∀ k, (∀ y0 y1 y2 y3, LeO (store_Right.l0 k y0 y1 y2 y3) (store_Right.l0 (k + 1) y0 y1 y2 y3))
 | 0 => fun _ _ _ _ r h => by simp [store_Right.l0] at h
 | k + 1 => by
  have ih0 := store_Right.mono_l k
  ·intro y0 y1 y2 y3
   unfold store_Right.l0
   repeat' first
   | (with_reducible exact ih0 _ _ _ _)
   | (with_reducible exact LeO.refl _)
   | (with_reducible exact LeO.none _)
   | (with_reducible refine LeO.ite ?_ ?_)
   | (with_reducible refine LeO.bind ?_ (fun _ => ?_))
   | exact ih0 _ _ _ _
   | exact LeO.none _
   | refine LeO.ite ?_ ?_
   | refine LeO.bind ?_ (fun _ => ?_)
theorem store_Right.mono : ∀ a0 k, LeO (store_Right.f k a0) (store_Right.f (k + 1) a0) := by
 intro a0 k
 have ih0 := store_Right.mono_l k
 unfold store_Right.f
 repeat' first
   | (with_reducible exact ih0 _ _ _ _)
   | (with_reducible exact LeO.refl _)
   | (with_reducible exact LeO.none _)
   | (with_reducible refine LeO.ite ?_ ?_)
   | (with_reducible refine LeO.bind ?_ (fun _ => ?_))
   | exact ih0 _ _ _ _
   | exact LeO.none _
   | refine LeO.ite ?_ ?_
   | refine LeO.bind ?_ (fun _ => ?_)
def store_Right.T4 : Bool × List (List Nat × List Nat) := (true, [([], []), ([0], [0]), ([1], [1]), ([2, 1], [2]), ([3], [3]), ([4, 3], [3, 4]), ([5, 3, 3], [3, 5]), ([6], [6]), ([6], [6]), ([8, 6], [6, 8]), ([7, 9, 6], [6, 7, 9]), ([10, 6], [6, 10]), ([6], [6]), ([11, 12, 6, 6], [6, 11, 12]), ([13, 6], [6, 13]), ([6, 14, 3], [3, 6, 14]), ([3, 15], [3, 15])])
def store_Right.B4 : List Nat := [0, 1, 3, 7, 15, 31, 63, 127, 127, 383, 1023, 2047, 127, 8191, 16383, 32767, 65535]
theorem store_Right.tab4 : rtab .any (opsOf Try.f19 4) = store_Right.T4 := by kernel_rfl
theorem store_Right.bits4 : waitsOk store_Right.T4.2 store_Right.B4 = true := by kernel_rfl
set_option maxHeartbeats 8000000 in
set_option maxRecDepth 100000 in
theorem store_Right.calls (k : Nat) (A0 : Option Addr) (c0 : Nat) (l0 : List (S41)) (r : Bool) (w : World) (hr0 : Kd.C k41 w A0 l0.length l0) (hc0 : l0.length ≤ c0) (h : store_Right.f k l0 = some r) :
  Calls Try.prog 19 #[.slice A0 l0.length c0] w fun e w' => e = .returned (.bool r) ∧ Below w.heap.size w w' := by
 have hu41 := Try.underlying41
 have HR0 := Aside0.mk hr0
 have HC0 := Aside0.mk hc0
 clear hr0 hc0
 have HB := Aside0.mk (Below.refl w.heap.size w)
 have H : (store_Right.l0 k l0 l0 (l0.length : Int) 0) = some r := h
 clear h
 have H' := Aside0.mk H
 clear H
 go_enter Try.func19, Try.ntmps19
 go_wp2
 go_loopg [7] k (fun kq v7 w' => ∃ (x7_1 : Int), v7 = .int .i64 x7_1 ∧ Aside0 (store_Right.l0 kq l0 l0 (l0.length : Int) x7_1 = some r) ∧ Aside0 (kq ≤ k) ∧ Aside0 (Below w.heap.size w w'))
 case atStart => exact ⟨(0), zq19_6, H', ⟨Nat.le_refl _⟩, ⟨by repeat (first | (with_reducible first | exact HB.out | apply below_alloc | apply pw_below_drewN | apply below_drew1) | exact HB.out)⟩⟩
 case round =>
  clear H'
  try clear c1
  obtain ⟨x7_1, rfl, HA, HK1, HB⟩ := hrel
  cases gk with
  | zero => exact absurd HA.out (by simp [store_Right.l0])
  | succ k1 =>
   have H := HA.out
   clear HA
   simp only [store_Right.l0] at H
   by_cases c2 : x7_1 < (l0.length : Int)
   ·rw [if_pos c2] at H
    have c2b0 : decide (x7_1 < (l0.length : Int)) = true := decide_eq_true c2
    clear c2
    by_cases c3 : 0 ≤ x7_1
    ·rw [if_pos c3] at H
     have c3b0 : decide (0 ≤ x7_1) = true := decide_eq_true c3
     clear c3
     by_cases c4 : x7_1 < (l0.length : Int)
     ·rw [if_pos c4] at H
      have c4b0 : decide (x7_1 < (l0.length : Int)) = true := decide_eq_true c4
      clear c4
      replace H := Option.bind_eq_some_iff.mp H
      obtain ⟨t207, A50, H⟩ := H
      have A5 := Aside0.mk A50
      clear A50
      by_cases c6 : t207 = true
      ·subst c6
       have H1 : (if x7_1 > 0 then (if 0 ≤ (wrap64 (x7_1 - 1)) then (if (wrap64 (x7_1 - 1)) < (l0.length : Int) then ((store_order.f ((rd_T41 l0 (wrap64 (x7_1 - 1))).f0) ((rd_T41 l0 (wrap64 (x7_1 - 1))).f1.f0) ((rd_T41 l0 (wrap64 (x7_1 - 1))).f1.f1) ((rd_T41 l0 (wrap64 (x7_1 - 1))).f1.f2) ((rd_T41 l0 (wrap64 (x7_1 - 1))).f2) ((rd_T41 l0 (wrap64 (x7_1 - 1))).f3) ((rd_T41 l0 (wrap64 (x7_1 - 1))).f4) ((rd_T41 l0 (wrap64 (x7_1 - 1))).f5) ((rd_T41 l0 x7_1).f0) ((rd_T41 l0 x7_1).f1.f0) ((rd_T41 l0 x7_1).f1.f1) ((rd_T41 l0 x7_1).f1.f2) ((rd_T41 l0 x7_1).f2) ((rd_T41 l0 x7_1).f3) ((rd_T41 l0 x7_1).f4) ((rd_T41 l0 x7_1).f5)).bind fun t209 => (if t209 ≥ 0 then (some false) else (store_Right.l0 k1 l0 l0 (l0.length : Int) (wrap64 (x7_1 + 1))))) else (none)) else (none)) else (store_Right.l0 k1 l0 l0 (l0.length : Int) (wrap64 (x7_1 + 1)))) = some r := by rw [if_pos rfl] at H; exact H
       clear H
       have H := H1
       clear H1
       by_cases c7 : x7_1 > 0
       ·rw [if_pos c7] at H
        have c7b0 : decide (0 < x7_1) = true := decide_eq_true c7
        clear c7
        obtain ⟨ji8, hji8⟩ : ∃ j_ : Int, (wrap64 (x7_1 - 1)) = j_ := ⟨_, rfl⟩
        replace H : (if 0 ≤ (ji8) then (if (ji8) < (l0.length : Int) then ((store_order.f ((rd_T41 l0 (ji8)).f0) ((rd_T41 l0 (ji8)).f1.f0) ((rd_T41 l0 (ji8)).f1.f1) ((rd_T41 l0 (ji8)).f1.f2) ((rd_T41 l0 (ji8)).f2) ((rd_T41 l0 (ji8)).f3) ((rd_T41 l0 (ji8)).f4) ((rd_T41 l0 (ji8)).f5) ((rd_T41 l0 x7_1).f0) ((rd_T41 l0 x7_1).f1.f0) ((rd_T41 l0 x7_1).f1.f1) ((rd_T41 l0 x7_1).f1.f2) ((rd_T41 l0 x7_1).f2) ((rd_T41 l0 x7_1).f3) ((rd_T41 l0 x7_1).f4) ((rd_T41 l0 x7_1).f5)).bind fun t209 => (if t209 ≥ 0 then (some false) else (store_Right.l0 k1 l0 l0 (l0.length : Int) (wrap64 (x7_1 + 1))))) else (none)) else (none)) = some r := by first | (rw [hji8] at H; exact H) | (simp only [hji8] at H ⊢; exact H)
        (try rw [hji8] at A5)
        have hji8w : (IntKind.i64.wrap (x7_1 - 1)) = ji8 := (i64_w _).trans hji8
        by_cases c9 : 0 ≤ (ji8)
        ·rw [if_pos c9] at H
         have c9b0 : decide (0 ≤ (ji8)) = true := decide_eq_true c9
         clear c9
         by_cases c10 : (ji8) < (l0.length : Int)
         ·rw [if_pos c10] at H
          have c10b0 : decide ((ji8) < (l0.length : Int)) = true := decide_eq_true c10
          clear c10
          replace H := Option.bind_eq_some_iff.mp H
          obtain ⟨t209, A110, H⟩ := H
          have A11 := Aside0.mk A110
          clear A110
          by_cases c12 : t209 ≥ 0
          ·rw [if_pos c12] at H
           have c12b0 : decide (0 ≤ t209) = true := decide_eq_true c12
           clear c12
           obtain rfl := Option.some.inj H
           have p205 : 0 ≤ (x7_1 : Int) := of_decide_eq_true zq19_5
           have q205 : x7_1 < (l0.length : Int) := of_decide_eq_true zq19_5
           obtain ⟨ad205, e205, hx205_0, hx205_1, hx205_2, hx205_3, hx205_4, hx205_5, hx205_6, hx205_7⟩ := at_T41 HR0.out x7_1 p205 q205
           cases e205
           replace hx205_0 := (HB.out.cell (World.block_lt_of_cell? w _ hx205_0)).trans hx205_0
           replace hx205_1 := (HB.out.cell (World.block_lt_of_cell? w _ hx205_1)).trans hx205_1
           replace hx205_2 := (HB.out.cell (World.block_lt_of_cell? w _ hx205_2)).trans hx205_2
           replace hx205_3 := (HB.out.cell (World.block_lt_of_cell? w _ hx205_3)).trans hx205_3
           replace hx205_4 := (HB.out.cell (World.block_lt_of_cell? w _ hx205_4)).trans hx205_4
           replace hx205_5 := (HB.out.cell (World.block_lt_of_cell? w _ hx205_5)).trans hx205_5
           replace hx205_6 := (HB.out.cell (World.block_lt_of_cell? w _ hx205_6)).trans hx205_6
           replace hx205_7 := (HB.out.cell (World.block_lt_of_cell? w _ hx205_7)).trans hx205_7
           replace p205 := eq_true p205
           replace q205 := eq_true q205
           try go_wp2_with (first | ((with_reducible refine gate_dst (N := 4) rfl ?_); refine box_event ?hg (N := 4) ?hd (cs := #[.int .i64 0, .string (⟨#[]⟩ : ByteArray), .int .i64 0, .int .i64 0, .bool false, .complex .f64 0 0, .string (⟨#[]⟩ : ByteArray), .bool false]) (t := 41) ?hr ?_; (case hd => rfl); (case hg => rfl); (case hr => first | (go_simp; done) | (go_simp; rfl)); intro gb206 hg w13 hbox hb; have BK206 := Aside0.mk (hbox); have GW206 := Aside0.mk ((zq19_0 : w.heap.size ≤ gb206)); have GE206 := Aside0.mk ((zq19_0 : w.heap.size ≤ gb206)); replace HB := Aside0.mk (below_step zq19_3 hb); clear hb hbox hg; have hcz14_0 : w13.cell? ⟨gb206, 0, none⟩ = some (.int .i64 0) := (blk_cell BK206.out 0).trans rfl; have hcz14_1 : w13.cell? ⟨gb206, 1, none⟩ = some (.string (⟨#[]⟩ : ByteArray)) := (blk_cell BK206.out 1).trans rfl; have hcz14_2 : w13.cell? ⟨gb206, 2, none⟩ = some (.int .i64 0) := (blk_cell BK206.out 2).trans rfl; have hcz14_3 : w13.cell? ⟨gb206, 3, none⟩ = some (.int .i64 0) := (blk_cell BK206.out 3).trans rfl; have hcz14_4 : w13.cell? ⟨gb206, 4, none⟩ = some (.bool false) := (blk_cell BK206.out 4).trans rfl; have hcz14_5 : w13.cell? ⟨gb206, 5, none⟩ = some (.complex .f64 0 0) := (blk_cell BK206.out 5).trans rfl; have hcz14_6 : w13.cell? ⟨gb206, 6, none⟩ = some (.string (⟨#[]⟩ : ByteArray)) := (blk_cell BK206.out 6).trans rfl; have hcz14_7 : w13.cell? ⟨gb206, 7, none⟩ = some (.bool false) := (blk_cell BK206.out 7).trans rfl; have hfz14_0 := blk_frozen BK206.out 0; have hfz14_1 := blk_frozen BK206.out 1; have hfz14_2 := blk_frozen BK206.out 2; have hfz14_3 := blk_frozen BK206.out 3; have hfz14_4 := blk_frozen BK206.out 4; have hfz14_5 := blk_frozen BK206.out 5; have hfz14_6 := blk_frozen BK206.out 6; have hfz14_7 := blk_frozen BK206.out 7))
           have n0_ : Aside0 (((((((((w13.setCell ⟨gb206, 0, none⟩ (.int .i64 ((rd_T41 l0 x7_1).f0))).setCell ⟨gb206, 1, none⟩ (.string ((rd_T41 l0 x7_1).f1.f0))).setCell ⟨gb206, 2, none⟩ (.int .i64 ((rd_T41 l0 x7_1).f1.f1))).setCell ⟨gb206, 3, none⟩ (.int .i64 ((rd_T41 l0 x7_1).f1.f2))).setCell ⟨gb206, 4, none⟩ (.bool ((rd_T41 l0 x7_1).f2))).setCell ⟨gb206, 5, none⟩ (.complex .f64 ((rd_T41 l0 x7_1).f3).re ((rd_T41 l0 x7_1).f3).im)).setCell ⟨gb206, 6, none⟩ (.string ((rd_T41 l0 x7_1).f4))).setCell ⟨gb206, 7, none⟩ (.bool ((rd_T41 l0 x7_1).f5))).heap[gb206]? = some (.cells #[.int .i64 ((rd_T41 l0 x7_1).f0), .string ((rd_T41 l0 x7_1).f1.f0), .int .i64 ((rd_T41 l0 x7_1).f1.f1), .int .i64 ((rd_T41 l0 x7_1).f1.f2), .bool ((rd_T41 l0 x7_1).f2), .complex .f64 ((rd_T41 l0 x7_1).f3).re ((rd_T41 l0 x7_1).f3).im, .string ((rd_T41 l0 x7_1).f4), .bool ((rd_T41 l0 x7_1).f5)] 41 (0, 0))) := ⟨by (with_reducible repeat (first | refine blk_drewN ?_ _ | refine blk_drew ?_ | refine blk_alloc ?_ _)); refine blk_put (cs := #[.int .i64 ((rd_T41 l0 x7_1).f0), .string ((rd_T41 l0 x7_1).f1.f0), .int .i64 ((rd_T41 l0 x7_1).f1.f1), .int .i64 ((rd_T41 l0 x7_1).f1.f2), .bool ((rd_T41 l0 x7_1).f2), .complex .f64 ((rd_T41 l0 x7_1).f3).re ((rd_T41 l0 x7_1).f3).im, .string ((rd_T41 l0 x7_1).f4), .bool false]) ?_ 7 _ rfl; (with_reducible repeat (first | refine blk_drewN ?_ _ | refine blk_drew ?_ | refine blk_alloc ?_ _)); refine blk_put (cs := #[.int .i64 ((rd_T41 l0 x7_1).f0), .string ((rd_T41 l0 x7_1).f1.f0), .int .i64 ((rd_T41 l0 x7_1).f1.f1), .int .i64 ((rd_T41 l0 x7_1).f1.f2), .bool ((rd_T41 l0 x7_1).f2), .complex .f64 ((rd_T41 l0 x7_1).f3).re ((rd_T41 l0 x7_1).f3).im, .string (⟨#[]⟩ : ByteArray), .bool false]) ?_ 6 _ rfl; (with_reducible repeat (first | refine blk_drewN ?_ _ | refine blk_drew ?_ | refine blk_alloc ?_ _)); refine blk_put (cs := #[.int .i64 ((rd_T41 l0 x7_1).f0), .string ((rd_T41 l0 x7_1).f1.f0), .int .i64 ((rd_T41 l0 x7_1).f1.f1), .int .i64 ((rd_T41 l0 x7_1).f1.f2), .bool ((rd_T41 l0 x7_1).f2), .complex .f64 0 0, .string (⟨#[]⟩ : ByteArray), .bool false]) ?_ 5 _ rfl; (with_reducible repeat (first | refine blk_drewN ?_ _ | refine blk_drew ?_ | refine blk_alloc ?_ _)); refine blk_put (cs := #[.int .i64 ((rd_T41 l0 x7_1).f0), .string ((rd_T41 l0 x7_1).f1.f0), .int .i64 ((rd_T41 l0 x7_1).f1.f1), .int .i64 ((rd_T41 l0 x7_1).f1.f2), .bool false, .complex .f64 0 0, .string (⟨#[]⟩ : ByteArray), .bool false]) ?_ 4 _ rfl; (with_reducible repeat (first | refine blk_drewN ?_ _ | refine blk_drew ?_ | refine blk_alloc ?_ _)); refine blk_put (cs := #[.int .i64 ((rd_T41 l0 x7_1).f0), .string ((rd_T41 l0 x7_1).f1.f0), .int .i64 ((rd_T41 l0 x7_1).f1.f1), .int .i64 0, .bool false, .complex .f64 0 0, .string (⟨#[]⟩ : ByteArray), .bool false]) ?_ 3 _ rfl; (with_reducible repeat (first | refine blk_drewN ?_ _ | refine blk_drew ?_ | refine blk_alloc ?_ _)); refine blk_put (cs := #[.int .i64 ((rd_T41 l0 x7_1).f0), .string ((rd_T41 l0 x7_1).f1.f0), .int .i64 0, .int .i64 0, .bool false, .complex .f64 0 0, .string (⟨#[]⟩ : ByteArray), .bool false]) ?_ 2 _ rfl; (with_reducible repeat (first | refine blk_drewN ?_ _ | refine blk_drew ?_ | refine blk_alloc ?_ _)); refine blk_put (cs := #[.int .i64 ((rd_T41 l0 x7_1).f0), .string (⟨#[]⟩ : ByteArray), .int .i64 0, .int .i64 0, .bool false, .complex .f64 0 0, .string (⟨#[]⟩ : ByteArray), .bool false]) ?_ 1 _ rfl; (with_reducible repeat (first | refine blk_drewN ?_ _ | refine blk_drew ?_ | refine blk_alloc ?_ _)); refine blk_put (cs := #[.int .i64 0, .string (⟨#[]⟩ : ByteArray), .int .i64 0, .int .i64 0, .bool false, .complex .f64 0 0, .string (⟨#[]⟩ : ByteArray), .bool false]) ?_ 0 _ rfl; (with_reducible repeat (first | refine blk_drewN ?_ _ | refine blk_drew ?_ | refine blk_alloc ?_ _)); exact BK206.out⟩
           have n1_ : Aside0 (Below w.heap.size w ((((((((w13.setCell ⟨gb206, 0, none⟩ (.int .i64 ((rd_T41 l0 x7_1).f0))).setCell ⟨gb206, 1, none⟩ (.string ((rd_T41 l0 x7_1).f1.f0))).setCell ⟨gb206, 2, none⟩ (.int .i64 ((rd_T41 l0 x7_1).f1.f1))).setCell ⟨gb206, 3, none⟩ (.int .i64 ((rd_T41 l0 x7_1).f1.f2))).setCell ⟨gb206, 4, none⟩ (.bool ((rd_T41 l0 x7_1).f2))).setCell ⟨gb206, 5, none⟩ (.complex .f64 ((rd_T41 l0 x7_1).f3).re ((rd_T41 l0 x7_1).f3).im)).setCell ⟨gb206, 6, none⟩ (.string ((rd_T41 l0 x7_1).f4))).setCell ⟨gb206, 7, none⟩ (.bool ((rd_T41 l0 x7_1).f5)))) := ⟨by repeat (first | (with_reducible first | exact HB.out | apply below_alloc | apply pw_below_drewN | apply below_drew1 | refine below_set ?_ GE206.out) | exact HB.out)⟩
           (try clear BK206)
           (try clear HB)
           generalize ((((((((w13.setCell ⟨gb206, 0, none⟩ (.int .i64 ((rd_T41 l0 x7_1).f0))).setCell ⟨gb206, 1, none⟩ (.string ((rd_T41 l0 x7_1).f1.f0))).setCell ⟨gb206, 2, none⟩ (.int .i64 ((rd_T41 l0 x7_1).f1.f1))).setCell ⟨gb206, 3, none⟩ (.int .i64 ((rd_T41 l0 x7_1).f1.f2))).setCell ⟨gb206, 4, none⟩ (.bool ((rd_T41 l0 x7_1).f2))).setCell ⟨gb206, 5, none⟩ (.complex .f64 ((rd_T41 l0 x7_1).f3).re ((rd_T41 l0 x7_1).f3).im)).setCell ⟨gb206, 6, none⟩ (.string ((rd_T41 l0 x7_1).f4))).setCell ⟨gb206, 7, none⟩ (.bool ((rd_T41 l0 x7_1).f5))) = w15 at n0_ n1_ ⊢
           have BK206 := n0_
           have HB := n1_
           clear n0_ n1_
           replace BK206 := Aside0.mk (blk_drew BK206.out)
           replace HB := Aside0.mk (below_drew1 HB.out)
           have p208 : 0 ≤ ((ji8) : Int) := of_decide_eq_true zq19_5
           have q208 : (ji8) < (l0.length : Int) := of_decide_eq_true zq19_5
           obtain ⟨ad208, e208, hx208_0, hx208_1, hx208_2, hx208_3, hx208_4, hx208_5, hx208_6, hx208_7⟩ := at_T41 HR0.out (ji8) p208 q208
           have hw208_7 := hx208_7
           have hw208_6 := hx208_6
           have hw208_5 := hx208_5
           have hw208_4 := hx208_4
           have hw208_3 := hx208_3
           have hw208_2 := hx208_2
           have hw208_1 := hx208_1
           have hw208_0 := hx208_0
           obtain rfl : ad205 = ad208 := (by injection e208)
           replace hx208_0 := (HB.out.cell (World.block_lt_of_cell? w _ hx208_0)).trans hx208_0
           replace hx208_1 := (HB.out.cell (World.block_lt_of_cell? w _ hx208_1)).trans hx208_1
           replace hx208_2 := (HB.out.cell (World.block_lt_of_cell? w _ hx208_2)).trans hx208_2
           replace hx208_3 := (HB.out.cell (World.block_lt_of_cell? w _ hx208_3)).trans hx208_3
           replace hx208_4 := (HB.out.cell (World.block_lt_of_cell? w _ hx208_4)).trans hx208_4
           replace hx208_5 := (HB.out.cell (World.block_lt_of_cell? w _ hx208_5)).trans hx208_5
           replace hx208_6 := (HB.out.cell (World.block_lt_of_cell? w _ hx208_6)).trans hx208_6
           replace hx208_7 := (HB.out.cell (World.block_lt_of_cell? w _ hx208_7)).trans hx208_7
           replace p208 := eq_true p208
           replace q208 := eq_true q208
           refine start_ (n := 17) (S := fun w' => w'.cell? ⟨gb206, 0, none⟩ = some (.int .i64 ((rd_T41 l0 x7_1).f0)) ∧ w'.cell? ⟨gb206, 1, none⟩ = some (.string ((rd_T41 l0 x7_1).f1.f0)) ∧ w'.cell? ⟨gb206, 2, none⟩ = some (.int .i64 ((rd_T41 l0 x7_1).f1.f1)) ∧ w'.cell? ⟨gb206, 3, none⟩ = some (.int .i64 ((rd_T41 l0 x7_1).f1.f2)) ∧ w'.cell? ⟨gb206, 4, none⟩ = some (.bool ((rd_T41 l0 x7_1).f2)) ∧ w'.cell? ⟨gb206, 5, none⟩ = some (.complex .f64 ((rd_T41 l0 x7_1).f3).re ((rd_T41 l0 x7_1).f3).im) ∧ w'.cell? ⟨gb206, 6, none⟩ = some (.string ((rd_T41 l0 x7_1).f4)) ∧ w'.cell? ⟨gb206, 7, none⟩ = some (.bool ((rd_T41 l0 x7_1).f5)) ∧ w'.cell? (ad205.add (((ji8)).toNat * 8)) = some (.int .i64 ((rd_T41 l0 (ji8)).f0)) ∧ w'.cell? ⟨(ad205.add (((ji8)).toNat * 8)).block, (ad205.add (((ji8)).toNat * 8)).off + 1, none⟩ = some (.string ((rd_T41 l0 (ji8)).f1.f0)) ∧ w'.cell? ⟨(ad205.add (((ji8)).toNat * 8)).block, (ad205.add (((ji8)).toNat * 8)).off + 2, none⟩ = some (.int .i64 ((rd_T41 l0 (ji8)).f1.f1)) ∧ w'.cell? ⟨(ad205.add (((ji8)).toNat * 8)).block, (ad205.add (((ji8)).toNat * 8)).off + 3, none⟩ = some (.int .i64 ((rd_T41 l0 (ji8)).f1.f2)) ∧ w'.cell? ⟨(ad205.add (((ji8)).toNat * 8)).block, (ad205.add (((ji8)).toNat * 8)).off + 4, none⟩ = some (.bool ((rd_T41 l0 (ji8)).f2)) ∧ w'.cell? ⟨(ad205.add (((ji8)).toNat * 8)).block, (ad205.add (((ji8)).toNat * 8)).off + 5, none⟩ = some (.complex .f64 ((rd_T41 l0 (ji8)).f3).re ((rd_T41 l0 (ji8)).f3).im) ∧ w'.cell? ⟨(ad205.add (((ji8)).toNat * 8)).block, (ad205.add (((ji8)).toNat * 8)).off + 6, none⟩ = some (.string ((rd_T41 l0 (ji8)).f4)) ∧ w'.cell? ⟨(ad205.add (((ji8)).toNat * 8)).block, (ad205.add (((ji8)).toNat * 8)).off + 7, none⟩ = some (.bool ((rd_T41 l0 (ji8)).f5))) (ds := []) #[false, false, false, false, false, false, false, false, false, false, false, false, false, false, false, false, false] (by kernel_rfl) rfl rfl ⟨(blk_cell BK206.out 0).trans rfl, (blk_cell BK206.out 1).trans rfl, (blk_cell BK206.out 2).trans rfl, (blk_cell BK206.out 3).trans rfl, (blk_cell BK206.out 4).trans rfl, (blk_cell BK206.out 5).trans rfl, (blk_cell BK206.out 6).trans rfl, (blk_cell BK206.out 7).trans rfl, ((HB.out.cell (World.block_lt_of_cell? w _ hw208_0)).trans hw208_0), ((HB.out.cell (World.block_lt_of_cell? w _ hw208_1)).trans hw208_1), ((HB.out.cell (World.block_lt_of_cell? w _ hw208_2)).trans hw208_2), ((HB.out.cell (World.block_lt_of_cell? w _ hw208_3)).trans hw208_3), ((HB.out.cell (World.block_lt_of_cell? w _ hw208_4)).trans hw208_4), ((HB.out.cell (World.block_lt_of_cell? w _ hw208_5)).trans hw208_5), ((HB.out.cell (World.block_lt_of_cell? w _ hw208_6)).trans hw208_6), ((HB.out.cell (World.block_lt_of_cell? w _ hw208_7)).trans hw208_7)⟩ (fun hHeld => ?_); refine with_tabW store_Right.tab4 store_Right.bits4 (fun HT_ HW_ => ?_)
           generalize w15.drew = w16 at BK206 HB hx208_0 hx208_1 hx208_2 hx208_3 hx208_4 hx208_5 hx208_6 hx208_7 hHeld ⊢
           refine t_ 0 12 (mk_ 17 0x1) hHeld ?_
           refine one_ (i := 1) (N := some 13) #[true, true, false, false, false, false, false, false, false, false, false, false, false, false, false, false, false] rfl rfl (one_of HT_.out (by kernel_rfl)) (by decide) (fun K hK => ?_)
           refine goes_ Try.func41 (by kernel_rfl) rfl #[.agg #[.int .i64 ((rd_T41 l0 x7_1).f0), .string ((rd_T41 l0 x7_1).f1.f0), .int .i64 ((rd_T41 l0 x7_1).f1.f1), .int .i64 ((rd_T41 l0 x7_1).f1.f2), .bool ((rd_T41 l0 x7_1).f2), .complex .f64 ((rd_T41 l0 x7_1).f3).re ((rd_T41 l0 x7_1).f3).im, .string ((rd_T41 l0 x7_1).f4), .bool ((rd_T41 l0 x7_1).f5)]] (by rfl) rfl rfl zq19_2 ?_
           with_reducible refine (item_Right.calls ((rd_T41 l0 x7_1).f0) ((rd_T41 l0 x7_1).f1.f0) ((rd_T41 l0 x7_1).f1.f1) ((rd_T41 l0 x7_1).f1.f2) ((rd_T41 l0 x7_1).f2) ((rd_T41 l0 x7_1).f3) ((rd_T41 l0 x7_1).f4) ((rd_T41 l0 x7_1).f5) true _ A5.out).mono ?_
           rintro e w17 ⟨rfl, hb⟩
           refine ⟨_, rfl, ?_⟩
           replace BK206 := Aside0.mk (blk_below (g := gb206) (o := .cells #[.int .i64 ((rd_T41 l0 x7_1).f0), .string ((rd_T41 l0 x7_1).f1.f0), .int .i64 ((rd_T41 l0 x7_1).f1.f1), .int .i64 ((rd_T41 l0 x7_1).f1.f2), .bool ((rd_T41 l0 x7_1).f2), .complex .f64 ((rd_T41 l0 x7_1).f3).re ((rd_T41 l0 x7_1).f3).im, .string ((rd_T41 l0 x7_1).f4), .bool ((rd_T41 l0 x7_1).f5)] 41 (0, 0)) zq19_4 hb)
           replace HB := Aside0.mk (below_step zq19_1 hb)
           (try clear hb)
           (try clear hb2)
           (try clear hk)
           (try clear hi)
           refine hK.out _ _ ⟨(blk_cell BK206.out 0).trans rfl, (blk_cell BK206.out 1).trans rfl, (blk_cell BK206.out 2).trans rfl, (blk_cell BK206.out 3).trans rfl, (blk_cell BK206.out 4).trans rfl, (blk_cell BK206.out 5).trans rfl, (blk_cell BK206.out 6).trans rfl, (blk_cell BK206.out 7).trans rfl, ((HB.out.cell (World.block_lt_of_cell? w _ hw208_0)).trans hw208_0), ((HB.out.cell (World.block_lt_of_cell? w _ hw208_1)).trans hw208_1), ((HB.out.cell (World.block_lt_of_cell? w _ hw208_2)).trans hw208_2), ((HB.out.cell (World.block_lt_of_cell? w _ hw208_3)).trans hw208_3), ((HB.out.cell (World.block_lt_of_cell? w _ hw208_4)).trans hw208_4), ((HB.out.cell (World.block_lt_of_cell? w _ hw208_5)).trans hw208_5), ((HB.out.cell (World.block_lt_of_cell? w _ hw208_6)).trans hw208_6), ((HB.out.cell (World.block_lt_of_cell? w _ hw208_7)).trans hw208_7)⟩ (fun hHeld => ?_)
           clear hK K
           refine norm_ (a' := ?_) ?_ ?_
           rotate_left
           ·show Act.put _ (some 13) _ = _
            simp only [Act.put, List.setIfInBounds_toArray, List.set_cons_zero, List.set_cons_succ, i64_w, i32_w]
            rfl
           refine p_ 2 14 (mk_ 17 0x7) ?_
           refine p_ 3 15 (mk_ 17 0xf) ?_
           refine p_ 4 16 (mk_ 17 0x1f) ?_
           refine p_ 5 17 (mk_ 17 0x3f) ?_
           refine p_ 6 18 (mk_ 17 0x7f) ?_
           refine p_ 7 19 (mk_ 17 0xff) ?_
           refine p_ 8 20 (mk_ 17 0x1ff) ?_
           refine p_ 9 21 (mk_ 17 0x3ff) ?_
           refine p_ 10 22 (mk_ 17 0x7ff) ?_
           refine t_ 11 23 (mk_ 17 0xfff) hHeld ?_
           refine t_ 12 24 (mk_ 17 0x1fff) hHeld ?_
           refine one_ (i := 13) (N := some 25) #[true, true, true, true, true, true, true, true, true, true, true, true, true, true, false, false, false] rfl rfl (one_of HT_.out (by kernel_rfl)) (by decide) (fun K hK => ?_)
           refine goes_ Try.func42 (by kernel_rfl) rfl #[.agg #[.int .i64 ((rd_T41 l0 (ji8)).f0), .string ((rd_T41 l0 (ji8)).f1.f0), .int .i64 ((rd_T41 l0 (ji8)).f1.f1), .int .i64 ((rd_T41 l0 (ji8)).f1.f2), .bool ((rd_T41 l0 (ji8)).f2), .complex .f64 ((rd_T41 l0 (ji8)).f3).re ((rd_T41 l0 (ji8)).f3).im, .string ((rd_T41 l0 (ji8)).f4), .bool ((rd_T41 l0 (ji8)).f5)], .agg #[.int .i64 ((rd_T41 l0 x7_1).f0), .string ((rd_T41 l0 x7_1).f1.f0), .int .i64 ((rd_T41 l0 x7_1).f1.f1), .int .i64 ((rd_T41 l0 x7_1).f1.f2), .bool ((rd_T41 l0 x7_1).f2), .complex .f64 ((rd_T41 l0 x7_1).f3).re ((rd_T41 l0 x7_1).f3).im, .string ((rd_T41 l0 x7_1).f4), .bool ((rd_T41 l0 x7_1).f5)]] (by rfl) rfl rfl (by (try simp only [List.map_toArray, List.map_cons, List.map_nil]); first | done | (simp only [hji8]; rfl) | rfl | (simp only [List.length_drop, List.length_take]; rfl)) ?_
           with_reducible refine (store_order.calls ((rd_T41 l0 (ji8)).f0) ((rd_T41 l0 (ji8)).f1.f0) ((rd_T41 l0 (ji8)).f1.f1) ((rd_T41 l0 (ji8)).f1.f2) ((rd_T41 l0 (ji8)).f2) ((rd_T41 l0 (ji8)).f3) ((rd_T41 l0 (ji8)).f4) ((rd_T41 l0 (ji8)).f5) ((rd_T41 l0 x7_1).f0) ((rd_T41 l0 x7_1).f1.f0) ((rd_T41 l0 x7_1).f1.f1) ((rd_T41 l0 x7_1).f1.f2) ((rd_T41 l0 x7_1).f2) ((rd_T41 l0 x7_1).f3) ((rd_T41 l0 x7_1).f4) ((rd_T41 l0 x7_1).f5) t209 _ A11.out).mono ?_
           rintro e w18 ⟨rfl, hb⟩
           refine ⟨_, rfl, ?_⟩
           replace BK206 := Aside0.mk (blk_below (g := gb206) (o := .cells #[.int .i64 ((rd_T41 l0 x7_1).f0), .string ((rd_T41 l0 x7_1).f1.f0), .int .i64 ((rd_T41 l0 x7_1).f1.f1), .int .i64 ((rd_T41 l0 x7_1).f1.f2), .bool ((rd_T41 l0 x7_1).f2), .complex .f64 ((rd_T41 l0 x7_1).f3).re ((rd_T41 l0 x7_1).f3).im, .string ((rd_T41 l0 x7_1).f4), .bool ((rd_T41 l0 x7_1).f5)] 41 (0, 0)) zq19_4 hb)
           replace HB := Aside0.mk (below_step zq19_1 hb)
           (try clear hb)
           (try clear hb2)
           (try clear hk)
           (try clear hi)
           refine hK.out _ _ ⟨(blk_cell BK206.out 0).trans rfl, (blk_cell BK206.out 1).trans rfl, (blk_cell BK206.out 2).trans rfl, (blk_cell BK206.out 3).trans rfl, (blk_cell BK206.out 4).trans rfl, (blk_cell BK206.out 5).trans rfl, (blk_cell BK206.out 6).trans rfl, (blk_cell BK206.out 7).trans rfl, ((HB.out.cell (World.block_lt_of_cell? w _ hw208_0)).trans hw208_0), ((HB.out.cell (World.block_lt_of_cell? w _ hw208_1)).trans hw208_1), ((HB.out.cell (World.block_lt_of_cell? w _ hw208_2)).trans hw208_2), ((HB.out.cell (World.block_lt_of_cell? w _ hw208_3)).trans hw208_3), ((HB.out.cell (World.block_lt_of_cell? w _ hw208_4)).trans hw208_4), ((HB.out.cell (World.block_lt_of_cell? w _ hw208_5)).trans hw208_5), ((HB.out.cell (World.block_lt_of_cell? w _ hw208_6)).trans hw208_6), ((HB.out.cell (World.block_lt_of_cell? w _ hw208_7)).trans hw208_7)⟩ (fun hHeld => ?_)
           clear hK K
           refine norm_ (a' := ?_) ?_ ?_
           rotate_left
           ·show Act.put _ (some 25) _ = _
            simp only [Act.put, List.setIfInBounds_toArray, List.set_cons_zero, List.set_cons_succ, i64_w, i32_w]
            rfl
           refine p_ 14 26 (mk_ 17 0x7fff) ?_
           refine p_ 15 27 (mk_ 17 0xffff) ?_
           refine p_ 16 28 (mk_ 17 0x1ffff) ?_
           refine done_ (done_of HT_.out (by kernel_rfl)) ?_
           try go_wp2
           go_ret
           exact ⟨by first | rfl | (simp [errW_none, errW_some] <;> rfl) | (simp only [← hji8]; first | rfl | (simp [errW_none, errW_some] <;> rfl)) | (simp [*, errW_none, errW_some] <;> rfl), by repeat (first | (with_reducible first | exact HB.out | apply below_alloc | apply pw_below_drewN | apply below_drew1 | refine below_set ?_ GE206.out) | exact HB.out)⟩
          ·rw [if_neg c12] at H
           have c12b0 : decide (0 ≤ t209) = false := decide_eq_false c12
           clear c12
           have H' := Aside0.mk H
           clear H
           have p205 : 0 ≤ (x7_1 : Int) := of_decide_eq_true zq19_5
           have q205 : x7_1 < (l0.length : Int) := of_decide_eq_true zq19_5
           obtain ⟨ad205, e205, hx205_0, hx205_1, hx205_2, hx205_3, hx205_4, hx205_5, hx205_6, hx205_7⟩ := at_T41 HR0.out x7_1 p205 q205
           cases e205
           replace hx205_0 := (HB.out.cell (World.block_lt_of_cell? w _ hx205_0)).trans hx205_0
           replace hx205_1 := (HB.out.cell (World.block_lt_of_cell? w _ hx205_1)).trans hx205_1
           replace hx205_2 := (HB.out.cell (World.block_lt_of_cell? w _ hx205_2)).trans hx205_2
           replace hx205_3 := (HB.out.cell (World.block_lt_of_cell? w _ hx205_3)).trans hx205_3
           replace hx205_4 := (HB.out.cell (World.block_lt_of_cell? w _ hx205_4)).trans hx205_4
           replace hx205_5 := (HB.out.cell (World.block_lt_of_cell? w _ hx205_5)).trans hx205_5
           replace hx205_6 := (HB.out.cell (World.block_lt_of_cell? w _ hx205_6)).trans hx205_6
           replace hx205_7 := (HB.out.cell (World.block_lt_of_cell? w _ hx205_7)).trans hx205_7
           replace p205 := eq_true p205
           replace q205 := eq_true q205
           try go_wp2_with (first | ((with_reducible refine gate_dst (N := 4) rfl ?_); refine box_event ?hg (N := 4) ?hd (cs := #[.int .i64 0, .string (⟨#[]⟩ : ByteArray), .int .i64 0, .int .i64 0, .bool false, .complex .f64 0 0, .string (⟨#[]⟩ : ByteArray), .bool false]) (t := 41) ?hr ?_; (case hd => rfl); (case hg => rfl); (case hr => first | (go_simp; done) | (go_simp; rfl)); intro gb206 hg w19 hbox hb; have BK206 := Aside0.mk (hbox); have GW206 := Aside0.mk ((zq19_0 : w.heap.size ≤ gb206)); have GE206 := Aside0.mk ((zq19_0 : w.heap.size ≤ gb206)); replace HB := Aside0.mk (below_step zq19_3 hb); clear hb hbox hg; have hcz20_0 : w19.cell? ⟨gb206, 0, none⟩ = some (.int .i64 0) := (blk_cell BK206.out 0).trans rfl; have hcz20_1 : w19.cell? ⟨gb206, 1, none⟩ = some (.string (⟨#[]⟩ : ByteArray)) := (blk_cell BK206.out 1).trans rfl; have hcz20_2 : w19.cell? ⟨gb206, 2, none⟩ = some (.int .i64 0) := (blk_cell BK206.out 2).trans rfl; have hcz20_3 : w19.cell? ⟨gb206, 3, none⟩ = some (.int .i64 0) := (blk_cell BK206.out 3).trans rfl; have hcz20_4 : w19.cell? ⟨gb206, 4, none⟩ = some (.bool false) := (blk_cell BK206.out 4).trans rfl; have hcz20_5 : w19.cell? ⟨gb206, 5, none⟩ = some (.complex .f64 0 0) := (blk_cell BK206.out 5).trans rfl; have hcz20_6 : w19.cell? ⟨gb206, 6, none⟩ = some (.string (⟨#[]⟩ : ByteArray)) := (blk_cell BK206.out 6).trans rfl; have hcz20_7 : w19.cell? ⟨gb206, 7, none⟩ = some (.bool false) := (blk_cell BK206.out 7).trans rfl; have hfz20_0 := blk_frozen BK206.out 0; have hfz20_1 := blk_frozen BK206.out 1; have hfz20_2 := blk_frozen BK206.out 2; have hfz20_3 := blk_frozen BK206.out 3; have hfz20_4 := blk_frozen BK206.out 4; have hfz20_5 := blk_frozen BK206.out 5; have hfz20_6 := blk_frozen BK206.out 6; have hfz20_7 := blk_frozen BK206.out 7))
           have n0_ : Aside0 (((((((((w19.setCell ⟨gb206, 0, none⟩ (.int .i64 ((rd_T41 l0 x7_1).f0))).setCell ⟨gb206, 1, none⟩ (.string ((rd_T41 l0 x7_1).f1.f0))).setCell ⟨gb206, 2, none⟩ (.int .i64 ((rd_T41 l0 x7_1).f1.f1))).setCell ⟨gb206, 3, none⟩ (.int .i64 ((rd_T41 l0 x7_1).f1.f2))).setCell ⟨gb206, 4, none⟩ (.bool ((rd_T41 l0 x7_1).f2))).setCell ⟨gb206, 5, none⟩ (.complex .f64 ((rd_T41 l0 x7_1).f3).re ((rd_T41 l0 x7_1).f3).im)).setCell ⟨gb206, 6, none⟩ (.string ((rd_T41 l0 x7_1).f4))).setCell ⟨gb206, 7, none⟩ (.bool ((rd_T41 l0 x7_1).f5))).heap[gb206]? = some (.cells #[.int .i64 ((rd_T41 l0 x7_1).f0), .string ((rd_T41 l0 x7_1).f1.f0), .int .i64 ((rd_T41 l0 x7_1).f1.f1), .int .i64 ((rd_T41 l0 x7_1).f1.f2), .bool ((rd_T41 l0 x7_1).f2), .complex .f64 ((rd_T41 l0 x7_1).f3).re ((rd_T41 l0 x7_1).f3).im, .string ((rd_T41 l0 x7_1).f4), .bool ((rd_T41 l0 x7_1).f5)] 41 (0, 0))) := ⟨by (with_reducible repeat (first | refine blk_drewN ?_ _ | refine blk_drew ?_ | refine blk_alloc ?_ _)); refine blk_put (cs := #[.int .i64 ((rd_T41 l0 x7_1).f0), .string ((rd_T41 l0 x7_1).f1.f0), .int .i64 ((rd_T41 l0 x7_1).f1.f1), .int .i64 ((rd_T41 l0 x7_1).f1.f2), .bool ((rd_T41 l0 x7_1).f2), .complex .f64 ((rd_T41 l0 x7_1).f3).re ((rd_T41 l0 x7_1).f3).im, .string ((rd_T41 l0 x7_1).f4), .bool false]) ?_ 7 _ rfl; (with_reducible repeat (first | refine blk_drewN ?_ _ | refine blk_drew ?_ | refine blk_alloc ?_ _)); refine blk_put (cs := #[.int .i64 ((rd_T41 l0 x7_1).f0), .string ((rd_T41 l0 x7_1).f1.f0), .int .i64 ((rd_T41 l0 x7_1).f1.f1), .int .i64 ((rd_T41 l0 x7_1).f1.f2), .bool ((rd_T41 l0 x7_1).f2), .complex .f64 ((rd_T41 l0 x7_1).f3).re ((rd_T41 l0 x7_1).f3).im, .string (⟨#[]⟩ : ByteArray), .bool false]) ?_ 6 _ rfl; (with_reducible repeat (first | refine blk_drewN ?_ _ | refine blk_drew ?_ | refine blk_alloc ?_ _)); refine blk_put (cs := #[.int .i64 ((rd_T41 l0 x7_1).f0), .string ((rd_T41 l0 x7_1).f1.f0), .int .i64 ((rd_T41 l0 x7_1).f1.f1), .int .i64 ((rd_T41 l0 x7_1).f1.f2), .bool ((rd_T41 l0 x7_1).f2), .complex .f64 0 0, .string (⟨#[]⟩ : ByteArray), .bool false]) ?_ 5 _ rfl; (with_reducible repeat (first | refine blk_drewN ?_ _ | refine blk_drew ?_ | refine blk_alloc ?_ _)); refine blk_put (cs := #[.int .i64 ((rd_T41 l0 x7_1).f0), .string ((rd_T41 l0 x7_1).f1.f0), .int .i64 ((rd_T41 l0 x7_1).f1.f1), .int .i64 ((rd_T41 l0 x7_1).f1.f2), .bool false, .complex .f64 0 0, .string (⟨#[]⟩ : ByteArray), .bool false]) ?_ 4 _ rfl; (with_reducible repeat (first | refine blk_drewN ?_ _ | refine blk_drew ?_ | refine blk_alloc ?_ _)); refine blk_put (cs := #[.int .i64 ((rd_T41 l0 x7_1).f0), .string ((rd_T41 l0 x7_1).f1.f0), .int .i64 ((rd_T41 l0 x7_1).f1.f1), .int .i64 0, .bool false, .complex .f64 0 0, .string (⟨#[]⟩ : ByteArray), .bool false]) ?_ 3 _ rfl; (with_reducible repeat (first | refine blk_drewN ?_ _ | refine blk_drew ?_ | refine blk_alloc ?_ _)); refine blk_put (cs := #[.int .i64 ((rd_T41 l0 x7_1).f0), .string ((rd_T41 l0 x7_1).f1.f0), .int .i64 0, .int .i64 0, .bool false, .complex .f64 0 0, .string (⟨#[]⟩ : ByteArray), .bool false]) ?_ 2 _ rfl; (with_reducible repeat (first | refine blk_drewN ?_ _ | refine blk_drew ?_ | refine blk_alloc ?_ _)); refine blk_put (cs := #[.int .i64 ((rd_T41 l0 x7_1).f0), .string (⟨#[]⟩ : ByteArray), .int .i64 0, .int .i64 0, .bool false, .complex .f64 0 0, .string (⟨#[]⟩ : ByteArray), .bool false]) ?_ 1 _ rfl; (with_reducible repeat (first | refine blk_drewN ?_ _ | refine blk_drew ?_ | refine blk_alloc ?_ _)); refine blk_put (cs := #[.int .i64 0, .string (⟨#[]⟩ : ByteArray), .int .i64 0, .int .i64 0, .bool false, .complex .f64 0 0, .string (⟨#[]⟩ : ByteArray), .bool false]) ?_ 0 _ rfl; (with_reducible repeat (first | refine blk_drewN ?_ _ | refine blk_drew ?_ | refine blk_alloc ?_ _)); exact BK206.out⟩
           have n1_ : Aside0 (Below w.heap.size w ((((((((w19.setCell ⟨gb206, 0, none⟩ (.int .i64 ((rd_T41 l0 x7_1).f0))).setCell ⟨gb206, 1, none⟩ (.string ((rd_T41 l0 x7_1).f1.f0))).setCell ⟨gb206, 2, none⟩ (.int .i64 ((rd_T41 l0 x7_1).f1.f1))).setCell ⟨gb206, 3, none⟩ (.int .i64 ((rd_T41 l0 x7_1).f1.f2))).setCell ⟨gb206, 4, none⟩ (.bool ((rd_T41 l0 x7_1).f2))).setCell ⟨gb206, 5, none⟩ (.complex .f64 ((rd_T41 l0 x7_1).f3).re ((rd_T41 l0 x7_1).f3).im)).setCell ⟨gb206, 6, none⟩ (.string ((rd_T41 l0 x7_1).f4))).setCell ⟨gb206, 7, none⟩ (.bool ((rd_T41 l0 x7_1).f5)))) := ⟨by repeat (first | (with_reducible first | exact HB.out | apply below_alloc | apply pw_below_drewN | apply below_drew1 | refine below_set ?_ GE206.out) | exact HB.out)⟩
           (try clear BK206)
           (try clear HB)
           generalize ((((((((w19.setCell ⟨gb206, 0, none⟩ (.int .i64 ((rd_T41 l0 x7_1).f0))).setCell ⟨gb206, 1, none⟩ (.string ((rd_T41 l0 x7_1).f1.f0))).setCell ⟨gb206, 2, none⟩ (.int .i64 ((rd_T41 l0 x7_1).f1.f1))).setCell ⟨gb206, 3, none⟩ (.int .i64 ((rd_T41 l0 x7_1).f1.f2))).setCell ⟨gb206, 4, none⟩ (.bool ((rd_T41 l0 x7_1).f2))).setCell ⟨gb206, 5, none⟩ (.complex .f64 ((rd_T41 l0 x7_1).f3).re ((rd_T41 l0 x7_1).f3).im)).setCell ⟨gb206, 6, none⟩ (.string ((rd_T41 l0 x7_1).f4))).setCell ⟨gb206, 7, none⟩ (.bool ((rd_T41 l0 x7_1).f5))) = w21 at n0_ n1_ ⊢
           have BK206 := n0_
           have HB := n1_
           clear n0_ n1_
           replace BK206 := Aside0.mk (blk_drew BK206.out)
           replace HB := Aside0.mk (below_drew1 HB.out)
           have p208 : 0 ≤ ((ji8) : Int) := of_decide_eq_true zq19_5
           have q208 : (ji8) < (l0.length : Int) := of_decide_eq_true zq19_5
           obtain ⟨ad208, e208, hx208_0, hx208_1, hx208_2, hx208_3, hx208_4, hx208_5, hx208_6, hx208_7⟩ := at_T41 HR0.out (ji8) p208 q208
           have hw208_7 := hx208_7
           have hw208_6 := hx208_6
           have hw208_5 := hx208_5
           have hw208_4 := hx208_4
           have hw208_3 := hx208_3
           have hw208_2 := hx208_2
           have hw208_1 := hx208_1
           have hw208_0 := hx208_0
           obtain rfl : ad205 = ad208 := (by injection e208)
           replace hx208_0 := (HB.out.cell (World.block_lt_of_cell? w _ hx208_0)).trans hx208_0
           replace hx208_1 := (HB.out.cell (World.block_lt_of_cell? w _ hx208_1)).trans hx208_1
           replace hx208_2 := (HB.out.cell (World.block_lt_of_cell? w _ hx208_2)).trans hx208_2
           replace hx208_3 := (HB.out.cell (World.block_lt_of_cell? w _ hx208_3)).trans hx208_3
           replace hx208_4 := (HB.out.cell (World.block_lt_of_cell? w _ hx208_4)).trans hx208_4
           replace hx208_5 := (HB.out.cell (World.block_lt_of_cell? w _ hx208_5)).trans hx208_5
           replace hx208_6 := (HB.out.cell (World.block_lt_of_cell? w _ hx208_6)).trans hx208_6
           replace hx208_7 := (HB.out.cell (World.block_lt_of_cell? w _ hx208_7)).trans hx208_7
           replace p208 := eq_true p208
           replace q208 := eq_true q208
           refine start_ (n := 17) (S := fun w' => w'.cell? ⟨gb206, 0, none⟩ = some (.int .i64 ((rd_T41 l0 x7_1).f0)) ∧ w'.cell? ⟨gb206, 1, none⟩ = some (.string ((rd_T41 l0 x7_1).f1.f0)) ∧ w'.cell? ⟨gb206, 2, none⟩ = some (.int .i64 ((rd_T41 l0 x7_1).f1.f1)) ∧ w'.cell? ⟨gb206, 3, none⟩ = some (.int .i64 ((rd_T41 l0 x7_1).f1.f2)) ∧ w'.cell? ⟨gb206, 4, none⟩ = some (.bool ((rd_T41 l0 x7_1).f2)) ∧ w'.cell? ⟨gb206, 5, none⟩ = some (.complex .f64 ((rd_T41 l0 x7_1).f3).re ((rd_T41 l0 x7_1).f3).im) ∧ w'.cell? ⟨gb206, 6, none⟩ = some (.string ((rd_T41 l0 x7_1).f4)) ∧ w'.cell? ⟨gb206, 7, none⟩ = some (.bool ((rd_T41 l0 x7_1).f5)) ∧ w'.cell? (ad205.add (((ji8)).toNat * 8)) = some (.int .i64 ((rd_T41 l0 (ji8)).f0)) ∧ w'.cell? ⟨(ad205.add (((ji8)).toNat * 8)).block, (ad205.add (((ji8)).toNat * 8)).off + 1, none⟩ = some (.string ((rd_T41 l0 (ji8)).f1.f0)) ∧ w'.cell? ⟨(ad205.add (((ji8)).toNat * 8)).block, (ad205.add (((ji8)).toNat * 8)).off + 2, none⟩ = some (.int .i64 ((rd_T41 l0 (ji8)).f1.f1)) ∧ w'.cell? ⟨(ad205.add (((ji8)).toNat * 8)).block, (ad205.add (((ji8)).toNat * 8)).off + 3, none⟩ = some (.int .i64 ((rd_T41 l0 (ji8)).f1.f2)) ∧ w'.cell? ⟨(ad205.add (((ji8)).toNat * 8)).block, (ad205.add (((ji8)).toNat * 8)).off + 4, none⟩ = some (.bool ((rd_T41 l0 (ji8)).f2)) ∧ w'.cell? ⟨(ad205.add (((ji8)).toNat * 8)).block, (ad205.add (((ji8)).toNat * 8)).off + 5, none⟩ = some (.complex .f64 ((rd_T41 l0 (ji8)).f3).re ((rd_T41 l0 (ji8)).f3).im) ∧ w'.cell? ⟨(ad205.add (((ji8)).toNat * 8)).block, (ad205.add (((ji8)).toNat * 8)).off + 6, none⟩ = some (.string ((rd_T41 l0 (ji8)).f4)) ∧ w'.cell? ⟨(ad205.add (((ji8)).toNat * 8)).block, (ad205.add (((ji8)).toNat * 8)).off + 7, none⟩ = some (.bool ((rd_T41 l0 (ji8)).f5))) (ds := []) #[false, false, false, false, false, false, false, false, false, false, false, false, false, false, false, false, false] (by kernel_rfl) rfl rfl ⟨(blk_cell BK206.out 0).trans rfl, (blk_cell BK206.out 1).trans rfl, (blk_cell BK206.out 2).trans rfl, (blk_cell BK206.out 3).trans rfl, (blk_cell BK206.out 4).trans rfl, (blk_cell BK206.out 5).trans rfl, (blk_cell BK206.out 6).trans rfl, (blk_cell BK206.out 7).trans rfl, ((HB.out.cell (World.block_lt_of_cell? w _ hw208_0)).trans hw208_0), ((HB.out.cell (World.block_lt_of_cell? w _ hw208_1)).trans hw208_1), ((HB.out.cell (World.block_lt_of_cell? w _ hw208_2)).trans hw208_2), ((HB.out.cell (World.block_lt_of_cell? w _ hw208_3)).trans hw208_3), ((HB.out.cell (World.block_lt_of_cell? w _ hw208_4)).trans hw208_4), ((HB.out.cell (World.block_lt_of_cell? w _ hw208_5)).trans hw208_5), ((HB.out.cell (World.block_lt_of_cell? w _ hw208_6)).trans hw208_6), ((HB.out.cell (World.block_lt_of_cell? w _ hw208_7)).trans hw208_7)⟩ (fun hHeld => ?_); refine with_tabW store_Right.tab4 store_Right.bits4 (fun HT_ HW_ => ?_)
           generalize w21.drew = w22 at BK206 HB hx208_0 hx208_1 hx208_2 hx208_3 hx208_4 hx208_5 hx208_6 hx208_7 hHeld ⊢
           refine t_ 0 12 (mk_ 17 0x1) hHeld ?_
           refine one_ (i := 1) (N := some 13) #[true, true, false, false, false, false, false, false, false, false, false, false, false, false, false, false, false] rfl rfl (one_of HT_.out (by kernel_rfl)) (by decide) (fun K hK => ?_)
           refine goes_ Try.func41 (by kernel_rfl) rfl #[.agg #[.int .i64 ((rd_T41 l0 x7_1).f0), .string ((rd_T41 l0 x7_1).f1.f0), .int .i64 ((rd_T41 l0 x7_1).f1.f1), .int .i64 ((rd_T41 l0 x7_1).f1.f2), .bool ((rd_T41 l0 x7_1).f2), .complex .f64 ((rd_T41 l0 x7_1).f3).re ((rd_T41 l0 x7_1).f3).im, .string ((rd_T41 l0 x7_1).f4), .bool ((rd_T41 l0 x7_1).f5)]] (by rfl) rfl rfl zq19_2 ?_
           with_reducible refine (item_Right.calls ((rd_T41 l0 x7_1).f0) ((rd_T41 l0 x7_1).f1.f0) ((rd_T41 l0 x7_1).f1.f1) ((rd_T41 l0 x7_1).f1.f2) ((rd_T41 l0 x7_1).f2) ((rd_T41 l0 x7_1).f3) ((rd_T41 l0 x7_1).f4) ((rd_T41 l0 x7_1).f5) true _ A5.out).mono ?_
           rintro e w23 ⟨rfl, hb⟩
           refine ⟨_, rfl, ?_⟩
           replace BK206 := Aside0.mk (blk_below (g := gb206) (o := .cells #[.int .i64 ((rd_T41 l0 x7_1).f0), .string ((rd_T41 l0 x7_1).f1.f0), .int .i64 ((rd_T41 l0 x7_1).f1.f1), .int .i64 ((rd_T41 l0 x7_1).f1.f2), .bool ((rd_T41 l0 x7_1).f2), .complex .f64 ((rd_T41 l0 x7_1).f3).re ((rd_T41 l0 x7_1).f3).im, .string ((rd_T41 l0 x7_1).f4), .bool ((rd_T41 l0 x7_1).f5)] 41 (0, 0)) zq19_4 hb)
           replace HB := Aside0.mk (below_step zq19_1 hb)
           (try clear hb)
           (try clear hb2)
           (try clear hk)
           (try clear hi)
           refine hK.out _ _ ⟨(blk_cell BK206.out 0).trans rfl, (blk_cell BK206.out 1).trans rfl, (blk_cell BK206.out 2).trans rfl, (blk_cell BK206.out 3).trans rfl, (blk_cell BK206.out 4).trans rfl, (blk_cell BK206.out 5).trans rfl, (blk_cell BK206.out 6).trans rfl, (blk_cell BK206.out 7).trans rfl, ((HB.out.cell (World.block_lt_of_cell? w _ hw208_0)).trans hw208_0), ((HB.out.cell (World.block_lt_of_cell? w _ hw208_1)).trans hw208_1), ((HB.out.cell (World.block_lt_of_cell? w _ hw208_2)).trans hw208_2), ((HB.out.cell (World.block_lt_of_cell? w _ hw208_3)).trans hw208_3), ((HB.out.cell (World.block_lt_of_cell? w _ hw208_4)).trans hw208_4), ((HB.out.cell (World.block_lt_of_cell? w _ hw208_5)).trans hw208_5), ((HB.out.cell (World.block_lt_of_cell? w _ hw208_6)).trans hw208_6), ((HB.out.cell (World.block_lt_of_cell? w _ hw208_7)).trans hw208_7)⟩ (fun hHeld => ?_)
           clear hK K
           refine norm_ (a' := ?_) ?_ ?_
           rotate_left
           ·show Act.put _ (some 13) _ = _
            simp only [Act.put, List.setIfInBounds_toArray, List.set_cons_zero, List.set_cons_succ, i64_w, i32_w]
            rfl
           refine p_ 2 14 (mk_ 17 0x7) ?_
           refine p_ 3 15 (mk_ 17 0xf) ?_
           refine p_ 4 16 (mk_ 17 0x1f) ?_
           refine p_ 5 17 (mk_ 17 0x3f) ?_
           refine p_ 6 18 (mk_ 17 0x7f) ?_
           refine p_ 7 19 (mk_ 17 0xff) ?_
           refine p_ 8 20 (mk_ 17 0x1ff) ?_
           refine p_ 9 21 (mk_ 17 0x3ff) ?_
           refine p_ 10 22 (mk_ 17 0x7ff) ?_
           refine t_ 11 23 (mk_ 17 0xfff) hHeld ?_
           refine t_ 12 24 (mk_ 17 0x1fff) hHeld ?_
           refine one_ (i := 13) (N := some 25) #[true, true, true, true, true, true, true, true, true, true, true, true, true, true, false, false, false] rfl rfl (one_of HT_.out (by kernel_rfl)) (by decide) (fun K hK => ?_)
           refine goes_ Try.func42 (by kernel_rfl) rfl #[.agg #[.int .i64 ((rd_T41 l0 (ji8)).f0), .string ((rd_T41 l0 (ji8)).f1.f0), .int .i64 ((rd_T41 l0 (ji8)).f1.f1), .int .i64 ((rd_T41 l0 (ji8)).f1.f2), .bool ((rd_T41 l0 (ji8)).f2), .complex .f64 ((rd_T41 l0 (ji8)).f3).re ((rd_T41 l0 (ji8)).f3).im, .string ((rd_T41 l0 (ji8)).f4), .bool ((rd_T41 l0 (ji8)).f5)], .agg #[.int .i64 ((rd_T41 l0 x7_1).f0), .string ((rd_T41 l0 x7_1).f1.f0), .int .i64 ((rd_T41 l0 x7_1).f1.f1), .int .i64 ((rd_T41 l0 x7_1).f1.f2), .bool ((rd_T41 l0 x7_1).f2), .complex .f64 ((rd_T41 l0 x7_1).f3).re ((rd_T41 l0 x7_1).f3).im, .string ((rd_T41 l0 x7_1).f4), .bool ((rd_T41 l0 x7_1).f5)]] (by rfl) rfl rfl (by (try simp only [List.map_toArray, List.map_cons, List.map_nil]); first | done | (simp only [hji8]; rfl) | rfl | (simp only [List.length_drop, List.length_take]; rfl)) ?_
           with_reducible refine (store_order.calls ((rd_T41 l0 (ji8)).f0) ((rd_T41 l0 (ji8)).f1.f0) ((rd_T41 l0 (ji8)).f1.f1) ((rd_T41 l0 (ji8)).f1.f2) ((rd_T41 l0 (ji8)).f2) ((rd_T41 l0 (ji8)).f3) ((rd_T41 l0 (ji8)).f4) ((rd_T41 l0 (ji8)).f5) ((rd_T41 l0 x7_1).f0) ((rd_T41 l0 x7_1).f1.f0) ((rd_T41 l0 x7_1).f1.f1) ((rd_T41 l0 x7_1).f1.f2) ((rd_T41 l0 x7_1).f2) ((rd_T41 l0 x7_1).f3) ((rd_T41 l0 x7_1).f4) ((rd_T41 l0 x7_1).f5) t209 _ A11.out).mono ?_
           rintro e w24 ⟨rfl, hb⟩
           refine ⟨_, rfl, ?_⟩
           replace BK206 := Aside0.mk (blk_below (g := gb206) (o := .cells #[.int .i64 ((rd_T41 l0 x7_1).f0), .string ((rd_T41 l0 x7_1).f1.f0), .int .i64 ((rd_T41 l0 x7_1).f1.f1), .int .i64 ((rd_T41 l0 x7_1).f1.f2), .bool ((rd_T41 l0 x7_1).f2), .complex .f64 ((rd_T41 l0 x7_1).f3).re ((rd_T41 l0 x7_1).f3).im, .string ((rd_T41 l0 x7_1).f4), .bool ((rd_T41 l0 x7_1).f5)] 41 (0, 0)) zq19_4 hb)
           replace HB := Aside0.mk (below_step zq19_1 hb)
           (try clear hb)
           (try clear hb2)
           (try clear hk)
           (try clear hi)
           refine hK.out _ _ ⟨(blk_cell BK206.out 0).trans rfl, (blk_cell BK206.out 1).trans rfl, (blk_cell BK206.out 2).trans rfl, (blk_cell BK206.out 3).trans rfl, (blk_cell BK206.out 4).trans rfl, (blk_cell BK206.out 5).trans rfl, (blk_cell BK206.out 6).trans rfl, (blk_cell BK206.out 7).trans rfl, ((HB.out.cell (World.block_lt_of_cell? w _ hw208_0)).trans hw208_0), ((HB.out.cell (World.block_lt_of_cell? w _ hw208_1)).trans hw208_1), ((HB.out.cell (World.block_lt_of_cell? w _ hw208_2)).trans hw208_2), ((HB.out.cell (World.block_lt_of_cell? w _ hw208_3)).trans hw208_3), ((HB.out.cell (World.block_lt_of_cell? w _ hw208_4)).trans hw208_4), ((HB.out.cell (World.block_lt_of_cell? w _ hw208_5)).trans hw208_5), ((HB.out.cell (World.block_lt_of_cell? w _ hw208_6)).trans hw208_6), ((HB.out.cell (World.block_lt_of_cell? w _ hw208_7)).trans hw208_7)⟩ (fun hHeld => ?_)
           clear hK K
           refine norm_ (a' := ?_) ?_ ?_
           rotate_left
           ·show Act.put _ (some 25) _ = _
            simp only [Act.put, List.setIfInBounds_toArray, List.set_cons_zero, List.set_cons_succ, i64_w, i32_w]
            rfl
           refine p_ 14 26 (mk_ 17 0x7fff) ?_
           refine p_ 15 27 (mk_ 17 0xffff) ?_
           refine p_ 16 28 (mk_ 17 0x1ffff) ?_
           refine done_ (done_of HT_.out (by kernel_rfl)) ?_
           try go_wp2
           go_roundg k1
           case measure => have := HK1.out; omega
           case rel => exact ⟨(wrap64 (x7_1 + 1)), zq19_6, H', ⟨by have := HK1.out; omega⟩, ⟨by repeat (first | (with_reducible first | exact HB.out | apply below_alloc | apply pw_below_drewN | apply below_drew1 | refine below_set ?_ GE206.out) | exact HB.out)⟩⟩
         ·rw [if_neg c10] at H
          exact absurd H (by simp)
        ·rw [if_neg c9] at H
         exact absurd H (by simp)
       ·rw [if_neg c7] at H
        have c7b0 : decide (0 < x7_1) = false := decide_eq_false c7
        clear c7
        have H' := Aside0.mk H
        clear H
        have p205 : 0 ≤ (x7_1 : Int) := of_decide_eq_true zq19_5
        have q205 : x7_1 < (l0.length : Int) := of_decide_eq_true zq19_5
        obtain ⟨ad205, e205, hx205_0, hx205_1, hx205_2, hx205_3, hx205_4, hx205_5, hx205_6, hx205_7⟩ := at_T41 HR0.out x7_1 p205 q205
        cases e205
        replace hx205_0 := (HB.out.cell (World.block_lt_of_cell? w _ hx205_0)).trans hx205_0
        replace hx205_1 := (HB.out.cell (World.block_lt_of_cell? w _ hx205_1)).trans hx205_1
        replace hx205_2 := (HB.out.cell (World.block_lt_of_cell? w _ hx205_2)).trans hx205_2
        replace hx205_3 := (HB.out.cell (World.block_lt_of_cell? w _ hx205_3)).trans hx205_3
        replace hx205_4 := (HB.out.cell (World.block_lt_of_cell? w _ hx205_4)).trans hx205_4
        replace hx205_5 := (HB.out.cell (World.block_lt_of_cell? w _ hx205_5)).trans hx205_5
        replace hx205_6 := (HB.out.cell (World.block_lt_of_cell? w _ hx205_6)).trans hx205_6
        replace hx205_7 := (HB.out.cell (World.block_lt_of_cell? w _ hx205_7)).trans hx205_7
        replace p205 := eq_true p205
        replace q205 := eq_true q205
        try go_wp2_with (first | ((with_reducible refine gate_dst (N := 4) rfl ?_); refine box_event ?hg (N := 4) ?hd (cs := #[.int .i64 0, .string (⟨#[]⟩ : ByteArray), .int .i64 0, .int .i64 0, .bool false, .complex .f64 0 0, .string (⟨#[]⟩ : ByteArray), .bool false]) (t := 41) ?hr ?_; (case hd => rfl); (case hg => rfl); (case hr => first | (go_simp; done) | (go_simp; rfl)); intro gb206 hg w25 hbox hb; have BK206 := Aside0.mk (hbox); have GW206 := Aside0.mk ((zq19_0 : w.heap.size ≤ gb206)); have GE206 := Aside0.mk ((zq19_0 : w.heap.size ≤ gb206)); replace HB := Aside0.mk (below_step zq19_3 hb); clear hb hbox hg; have hcz26_0 : w25.cell? ⟨gb206, 0, none⟩ = some (.int .i64 0) := (blk_cell BK206.out 0).trans rfl; have hcz26_1 : w25.cell? ⟨gb206, 1, none⟩ = some (.string (⟨#[]⟩ : ByteArray)) := (blk_cell BK206.out 1).trans rfl; have hcz26_2 : w25.cell? ⟨gb206, 2, none⟩ = some (.int .i64 0) := (blk_cell BK206.out 2).trans rfl; have hcz26_3 : w25.cell? ⟨gb206, 3, none⟩ = some (.int .i64 0) := (blk_cell BK206.out 3).trans rfl; have hcz26_4 : w25.cell? ⟨gb206, 4, none⟩ = some (.bool false) := (blk_cell BK206.out 4).trans rfl; have hcz26_5 : w25.cell? ⟨gb206, 5, none⟩ = some (.complex .f64 0 0) := (blk_cell BK206.out 5).trans rfl; have hcz26_6 : w25.cell? ⟨gb206, 6, none⟩ = some (.string (⟨#[]⟩ : ByteArray)) := (blk_cell BK206.out 6).trans rfl; have hcz26_7 : w25.cell? ⟨gb206, 7, none⟩ = some (.bool false) := (blk_cell BK206.out 7).trans rfl; have hfz26_0 := blk_frozen BK206.out 0; have hfz26_1 := blk_frozen BK206.out 1; have hfz26_2 := blk_frozen BK206.out 2; have hfz26_3 := blk_frozen BK206.out 3; have hfz26_4 := blk_frozen BK206.out 4; have hfz26_5 := blk_frozen BK206.out 5; have hfz26_6 := blk_frozen BK206.out 6; have hfz26_7 := blk_frozen BK206.out 7))
        have n0_ : Aside0 (((((((((w25.setCell ⟨gb206, 0, none⟩ (.int .i64 ((rd_T41 l0 x7_1).f0))).setCell ⟨gb206, 1, none⟩ (.string ((rd_T41 l0 x7_1).f1.f0))).setCell ⟨gb206, 2, none⟩ (.int .i64 ((rd_T41 l0 x7_1).f1.f1))).setCell ⟨gb206, 3, none⟩ (.int .i64 ((rd_T41 l0 x7_1).f1.f2))).setCell ⟨gb206, 4, none⟩ (.bool ((rd_T41 l0 x7_1).f2))).setCell ⟨gb206, 5, none⟩ (.complex .f64 ((rd_T41 l0 x7_1).f3).re ((rd_T41 l0 x7_1).f3).im)).setCell ⟨gb206, 6, none⟩ (.string ((rd_T41 l0 x7_1).f4))).setCell ⟨gb206, 7, none⟩ (.bool ((rd_T41 l0 x7_1).f5))).heap[gb206]? = some (.cells #[.int .i64 ((rd_T41 l0 x7_1).f0), .string ((rd_T41 l0 x7_1).f1.f0), .int .i64 ((rd_T41 l0 x7_1).f1.f1), .int .i64 ((rd_T41 l0 x7_1).f1.f2), .bool ((rd_T41 l0 x7_1).f2), .complex .f64 ((rd_T41 l0 x7_1).f3).re ((rd_T41 l0 x7_1).f3).im, .string ((rd_T41 l0 x7_1).f4), .bool ((rd_T41 l0 x7_1).f5)] 41 (0, 0))) := ⟨by (with_reducible repeat (first | refine blk_drewN ?_ _ | refine blk_drew ?_ | refine blk_alloc ?_ _)); refine blk_put (cs := #[.int .i64 ((rd_T41 l0 x7_1).f0), .string ((rd_T41 l0 x7_1).f1.f0), .int .i64 ((rd_T41 l0 x7_1).f1.f1), .int .i64 ((rd_T41 l0 x7_1).f1.f2), .bool ((rd_T41 l0 x7_1).f2), .complex .f64 ((rd_T41 l0 x7_1).f3).re ((rd_T41 l0 x7_1).f3).im, .string ((rd_T41 l0 x7_1).f4), .bool false]) ?_ 7 _ rfl; (with_reducible repeat (first | refine blk_drewN ?_ _ | refine blk_drew ?_ | refine blk_alloc ?_ _)); refine blk_put (cs := #[.int .i64 ((rd_T41 l0 x7_1).f0), .string ((rd_T41 l0 x7_1).f1.f0), .int .i64 ((rd_T41 l0 x7_1).f1.f1), .int .i64 ((rd_T41 l0 x7_1).f1.f2), .bool ((rd_T41 l0 x7_1).f2), .complex .f64 ((rd_T41 l0 x7_1).f3).re ((rd_T41 l0 x7_1).f3).im, .string (⟨#[]⟩ : ByteArray), .bool false]) ?_ 6 _ rfl; (with_reducible repeat (first | refine blk_drewN ?_ _ | refine blk_drew ?_ | refine blk_alloc ?_ _)); refine blk_put (cs := #[.int .i64 ((rd_T41 l0 x7_1).f0), .string ((rd_T41 l0 x7_1).f1.f0), .int .i64 ((rd_T41 l0 x7_1).f1.f1), .int .i64 ((rd_T41 l0 x7_1).f1.f2), .bool ((rd_T41 l0 x7_1).f2), .complex .f64 0 0, .string (⟨#[]⟩ : ByteArray), .bool false]) ?_ 5 _ rfl; (with_reducible repeat (first | refine blk_drewN ?_ _ | refine blk_drew ?_ | refine blk_alloc ?_ _)); refine blk_put (cs := #[.int .i64 ((rd_T41 l0 x7_1).f0), .string ((rd_T41 l0 x7_1).f1.f0), .int .i64 ((rd_T41 l0 x7_1).f1.f1), .int .i64 ((rd_T41 l0 x7_1).f1.f2), .bool false, .complex .f64 0 0, .string (⟨#[]⟩ : ByteArray), .bool false]) ?_ 4 _ rfl; (with_reducible repeat (first | refine blk_drewN ?_ _ | refine blk_drew ?_ | refine blk_alloc ?_ _)); refine blk_put (cs := #[.int .i64 ((rd_T41 l0 x7_1).f0), .string ((rd_T41 l0 x7_1).f1.f0), .int .i64 ((rd_T41 l0 x7_1).f1.f1), .int .i64 0, .bool false, .complex .f64 0 0, .string (⟨#[]⟩ : ByteArray), .bool false]) ?_ 3 _ rfl; (with_reducible repeat (first | refine blk_drewN ?_ _ | refine blk_drew ?_ | refine blk_alloc ?_ _)); refine blk_put (cs := #[.int .i64 ((rd_T41 l0 x7_1).f0), .string ((rd_T41 l0 x7_1).f1.f0), .int .i64 0, .int .i64 0, .bool false, .complex .f64 0 0, .string (⟨#[]⟩ : ByteArray), .bool false]) ?_ 2 _ rfl; (with_reducible repeat (first | refine blk_drewN ?_ _ | refine blk_drew ?_ | refine blk_alloc ?_ _)); refine blk_put (cs := #[.int .i64 ((rd_T41 l0 x7_1).f0), .string (⟨#[]⟩ : ByteArray), .int .i64 0, .int .i64 0, .bool false, .complex .f64 0 0, .string (⟨#[]⟩ : ByteArray), .bool false]) ?_ 1 _ rfl; (with_reducible repeat (first | refine blk_drewN ?_ _ | refine blk_drew ?_ | refine blk_alloc ?_ _)); refine blk_put (cs := #[.int .i64 0, .string (⟨#[]⟩ : ByteArray), .int .i64 0, .int .i64 0, .bool false, .complex .f64 0 0, .string (⟨#[]⟩ : ByteArray), .bool false]) ?_ 0 _ rfl; (with_reducible repeat (first | refine blk_drewN ?_ _ | refine blk_drew ?_ | refine blk_alloc ?_ _)); exact BK206.out⟩
        have n1_ : Aside0 (Below w.heap.size w ((((((((w25.setCell ⟨gb206, 0, none⟩ (.int .i64 ((rd_T41 l0 x7_1).f0))).setCell ⟨gb206, 1, none⟩ (.string ((rd_T41 l0 x7_1).f1.f0))).setCell ⟨gb206, 2, none⟩ (.int .i64 ((rd_T41 l0 x7_1).f1.f1))).setCell ⟨gb206, 3, none⟩ (.int .i64 ((rd_T41 l0 x7_1).f1.f2))).setCell ⟨gb206, 4, none⟩ (.bool ((rd_T41 l0 x7_1).f2))).setCell ⟨gb206, 5, none⟩ (.complex .f64 ((rd_T41 l0 x7_1).f3).re ((rd_T41 l0 x7_1).f3).im)).setCell ⟨gb206, 6, none⟩ (.string ((rd_T41 l0 x7_1).f4))).setCell ⟨gb206, 7, none⟩ (.bool ((rd_T41 l0 x7_1).f5)))) := ⟨by repeat (first | (with_reducible first | exact HB.out | apply below_alloc | apply pw_below_drewN | apply below_drew1 | refine below_set ?_ GE206.out) | exact HB.out)⟩
        (try clear BK206)
        (try clear HB)
        generalize ((((((((w25.setCell ⟨gb206, 0, none⟩ (.int .i64 ((rd_T41 l0 x7_1).f0))).setCell ⟨gb206, 1, none⟩ (.string ((rd_T41 l0 x7_1).f1.f0))).setCell ⟨gb206, 2, none⟩ (.int .i64 ((rd_T41 l0 x7_1).f1.f1))).setCell ⟨gb206, 3, none⟩ (.int .i64 ((rd_T41 l0 x7_1).f1.f2))).setCell ⟨gb206, 4, none⟩ (.bool ((rd_T41 l0 x7_1).f2))).setCell ⟨gb206, 5, none⟩ (.complex .f64 ((rd_T41 l0 x7_1).f3).re ((rd_T41 l0 x7_1).f3).im)).setCell ⟨gb206, 6, none⟩ (.string ((rd_T41 l0 x7_1).f4))).setCell ⟨gb206, 7, none⟩ (.bool ((rd_T41 l0 x7_1).f5))) = w27 at n0_ n1_ ⊢
        have BK206 := n0_
        have HB := n1_
        clear n0_ n1_
        replace BK206 := Aside0.mk (blk_drew BK206.out)
        replace HB := Aside0.mk (below_drew1 HB.out)
        refine start_ (n := 17) (S := fun w' => w'.cell? ⟨gb206, 0, none⟩ = some (.int .i64 ((rd_T41 l0 x7_1).f0)) ∧ w'.cell? ⟨gb206, 1, none⟩ = some (.string ((rd_T41 l0 x7_1).f1.f0)) ∧ w'.cell? ⟨gb206, 2, none⟩ = some (.int .i64 ((rd_T41 l0 x7_1).f1.f1)) ∧ w'.cell? ⟨gb206, 3, none⟩ = some (.int .i64 ((rd_T41 l0 x7_1).f1.f2)) ∧ w'.cell? ⟨gb206, 4, none⟩ = some (.bool ((rd_T41 l0 x7_1).f2)) ∧ w'.cell? ⟨gb206, 5, none⟩ = some (.complex .f64 ((rd_T41 l0 x7_1).f3).re ((rd_T41 l0 x7_1).f3).im) ∧ w'.cell? ⟨gb206, 6, none⟩ = some (.string ((rd_T41 l0 x7_1).f4)) ∧ w'.cell? ⟨gb206, 7, none⟩ = some (.bool ((rd_T41 l0 x7_1).f5))) (ds := []) #[false, false, false, false, false, false, false, false, false, false, false, false, false, false, false, false, false] (by kernel_rfl) rfl rfl ⟨(blk_cell BK206.out 0).trans rfl, (blk_cell BK206.out 1).trans rfl, (blk_cell BK206.out 2).trans rfl, (blk_cell BK206.out 3).trans rfl, (blk_cell BK206.out 4).trans rfl, (blk_cell BK206.out 5).trans rfl, (blk_cell BK206.out 6).trans rfl, (blk_cell BK206.out 7).trans rfl⟩ (fun hHeld => ?_); refine with_tabW store_Right.tab4 store_Right.bits4 (fun HT_ HW_ => ?_)
        generalize w27.drew = w28 at BK206 HB hHeld ⊢
        refine t_ 0 12 (mk_ 17 0x1) hHeld ?_
        refine one_ (i := 1) (N := some 13) #[true, true, false, false, false, false, false, false, false, false, false, false, false, false, false, false, false] rfl rfl (one_of HT_.out (by kernel_rfl)) (by decide) (fun K hK => ?_)
        refine goes_ Try.func41 (by kernel_rfl) rfl #[.agg #[.int .i64 ((rd_T41 l0 x7_1).f0), .string ((rd_T41 l0 x7_1).f1.f0), .int .i64 ((rd_T41 l0 x7_1).f1.f1), .int .i64 ((rd_T41 l0 x7_1).f1.f2), .bool ((rd_T41 l0 x7_1).f2), .complex .f64 ((rd_T41 l0 x7_1).f3).re ((rd_T41 l0 x7_1).f3).im, .string ((rd_T41 l0 x7_1).f4), .bool ((rd_T41 l0 x7_1).f5)]] (by rfl) rfl rfl zq19_2 ?_
        with_reducible refine (item_Right.calls ((rd_T41 l0 x7_1).f0) ((rd_T41 l0 x7_1).f1.f0) ((rd_T41 l0 x7_1).f1.f1) ((rd_T41 l0 x7_1).f1.f2) ((rd_T41 l0 x7_1).f2) ((rd_T41 l0 x7_1).f3) ((rd_T41 l0 x7_1).f4) ((rd_T41 l0 x7_1).f5) true _ A5.out).mono ?_
        rintro e w29 ⟨rfl, hb⟩
        refine ⟨_, rfl, ?_⟩
        replace BK206 := Aside0.mk (blk_below (g := gb206) (o := .cells #[.int .i64 ((rd_T41 l0 x7_1).f0), .string ((rd_T41 l0 x7_1).f1.f0), .int .i64 ((rd_T41 l0 x7_1).f1.f1), .int .i64 ((rd_T41 l0 x7_1).f1.f2), .bool ((rd_T41 l0 x7_1).f2), .complex .f64 ((rd_T41 l0 x7_1).f3).re ((rd_T41 l0 x7_1).f3).im, .string ((rd_T41 l0 x7_1).f4), .bool ((rd_T41 l0 x7_1).f5)] 41 (0, 0)) zq19_4 hb)
        replace HB := Aside0.mk (below_step zq19_1 hb)
        (try clear hb)
        (try clear hb2)
        (try clear hk)
        (try clear hi)
        refine hK.out _ _ ⟨(blk_cell BK206.out 0).trans rfl, (blk_cell BK206.out 1).trans rfl, (blk_cell BK206.out 2).trans rfl, (blk_cell BK206.out 3).trans rfl, (blk_cell BK206.out 4).trans rfl, (blk_cell BK206.out 5).trans rfl, (blk_cell BK206.out 6).trans rfl, (blk_cell BK206.out 7).trans rfl⟩ (fun hHeld => ?_)
        clear hK K
        refine norm_ (a' := ?_) ?_ ?_
        rotate_left
        ·show Act.put _ (some 13) _ = _
         simp only [Act.put, List.setIfInBounds_toArray, List.set_cons_zero, List.set_cons_succ, i64_w, i32_w]
         rfl
        refine p_ 2 14 (mk_ 17 0x7) ?_
        refine p_ 3 15 (mk_ 17 0xf) ?_
        refine p_ 4 16 (mk_ 17 0x1f) ?_
        refine p_ 5 17 (mk_ 17 0x3f) ?_
        refine p_ 6 18 (mk_ 17 0x7f) ?_
        refine u_ 7 19 (mk_ 17 0xff) ?_
        refine u_ 8 20 (mk_ 17 0x1ff) ?_
        refine u_ 9 21 (mk_ 17 0x3ff) ?_
        refine u_ 10 22 (mk_ 17 0x7ff) ?_
        refine u_ 11 23 (mk_ 17 0xfff) ?_
        refine u_ 12 24 (mk_ 17 0x1fff) ?_
        refine u_ 13 25 (mk_ 17 0x3fff) ?_
        refine u_ 14 26 (mk_ 17 0x7fff) ?_
        refine p_ 15 27 (mk_ 17 0xffff) ?_
        refine p_ 16 28 (mk_ 17 0x1ffff) ?_
        refine done_ (done_of HT_.out (by kernel_rfl)) ?_
        try go_wp2
        go_roundg k1
        case measure => have := HK1.out; omega
        case rel => exact ⟨(wrap64 (x7_1 + 1)), zq19_6, H', ⟨by have := HK1.out; omega⟩, ⟨by repeat (first | (with_reducible first | exact HB.out | apply below_alloc | apply pw_below_drewN | apply below_drew1 | refine below_set ?_ GE206.out) | exact HB.out)⟩⟩
      ·replace c6 := Bool.eq_false_iff.mpr c6
       subst c6
       have H1 : (some false) = some r := by rw [if_neg (show ¬ (false = true) by decide)] at H; exact H
       clear H
       have H := H1
       clear H1
       obtain rfl := Option.some.inj H
       have p205 : 0 ≤ (x7_1 : Int) := of_decide_eq_true zq19_5
       have q205 : x7_1 < (l0.length : Int) := of_decide_eq_true zq19_5
       obtain ⟨ad205, e205, hx205_0, hx205_1, hx205_2, hx205_3, hx205_4, hx205_5, hx205_6, hx205_7⟩ := at_T41 HR0.out x7_1 p205 q205
       cases e205
       replace hx205_0 := (HB.out.cell (World.block_lt_of_cell? w _ hx205_0)).trans hx205_0
       replace hx205_1 := (HB.out.cell (World.block_lt_of_cell? w _ hx205_1)).trans hx205_1
       replace hx205_2 := (HB.out.cell (World.block_lt_of_cell? w _ hx205_2)).trans hx205_2
       replace hx205_3 := (HB.out.cell (World.block_lt_of_cell? w _ hx205_3)).trans hx205_3
       replace hx205_4 := (HB.out.cell (World.block_lt_of_cell? w _ hx205_4)).trans hx205_4
       replace hx205_5 := (HB.out.cell (World.block_lt_of_cell? w _ hx205_5)).trans hx205_5
       replace hx205_6 := (HB.out.cell (World.block_lt_of_cell? w _ hx205_6)).trans hx205_6
       replace hx205_7 := (HB.out.cell (World.block_lt_of_cell? w _ hx205_7)).trans hx205_7
       replace p205 := eq_true p205
       replace q205 := eq_true q205
       try go_wp2_with (first | ((with_reducible refine gate_dst (N := 4) rfl ?_); refine box_event ?hg (N := 4) ?hd (cs := #[.int .i64 0, .string (⟨#[]⟩ : ByteArray), .int .i64 0, .int .i64 0, .bool false, .complex .f64 0 0, .string (⟨#[]⟩ : ByteArray), .bool false]) (t := 41) ?hr ?_; (case hd => rfl); (case hg => rfl); (case hr => first | (go_simp; done) | (go_simp; rfl)); intro gb206 hg w30 hbox hb; have BK206 := Aside0.mk (hbox); have GW206 := Aside0.mk ((zq19_0 : w.heap.size ≤ gb206)); have GE206 := Aside0.mk ((zq19_0 : w.heap.size ≤ gb206)); replace HB := Aside0.mk (below_step zq19_3 hb); clear hb hbox hg; have hcz31_0 : w30.cell? ⟨gb206, 0, none⟩ = some (.int .i64 0) := (blk_cell BK206.out 0).trans rfl; have hcz31_1 : w30.cell? ⟨gb206, 1, none⟩ = some (.string (⟨#[]⟩ : ByteArray)) := (blk_cell BK206.out 1).trans rfl; have hcz31_2 : w30.cell? ⟨gb206, 2, none⟩ = some (.int .i64 0) := (blk_cell BK206.out 2).trans rfl; have hcz31_3 : w30.cell? ⟨gb206, 3, none⟩ = some (.int .i64 0) := (blk_cell BK206.out 3).trans rfl; have hcz31_4 : w30.cell? ⟨gb206, 4, none⟩ = some (.bool false) := (blk_cell BK206.out 4).trans rfl; have hcz31_5 : w30.cell? ⟨gb206, 5, none⟩ = some (.complex .f64 0 0) := (blk_cell BK206.out 5).trans rfl; have hcz31_6 : w30.cell? ⟨gb206, 6, none⟩ = some (.string (⟨#[]⟩ : ByteArray)) := (blk_cell BK206.out 6).trans rfl; have hcz31_7 : w30.cell? ⟨gb206, 7, none⟩ = some (.bool false) := (blk_cell BK206.out 7).trans rfl; have hfz31_0 := blk_frozen BK206.out 0; have hfz31_1 := blk_frozen BK206.out 1; have hfz31_2 := blk_frozen BK206.out 2; have hfz31_3 := blk_frozen BK206.out 3; have hfz31_4 := blk_frozen BK206.out 4; have hfz31_5 := blk_frozen BK206.out 5; have hfz31_6 := blk_frozen BK206.out 6; have hfz31_7 := blk_frozen BK206.out 7))
       have n0_ : Aside0 (((((((((w30.setCell ⟨gb206, 0, none⟩ (.int .i64 ((rd_T41 l0 x7_1).f0))).setCell ⟨gb206, 1, none⟩ (.string ((rd_T41 l0 x7_1).f1.f0))).setCell ⟨gb206, 2, none⟩ (.int .i64 ((rd_T41 l0 x7_1).f1.f1))).setCell ⟨gb206, 3, none⟩ (.int .i64 ((rd_T41 l0 x7_1).f1.f2))).setCell ⟨gb206, 4, none⟩ (.bool ((rd_T41 l0 x7_1).f2))).setCell ⟨gb206, 5, none⟩ (.complex .f64 ((rd_T41 l0 x7_1).f3).re ((rd_T41 l0 x7_1).f3).im)).setCell ⟨gb206, 6, none⟩ (.string ((rd_T41 l0 x7_1).f4))).setCell ⟨gb206, 7, none⟩ (.bool ((rd_T41 l0 x7_1).f5))).heap[gb206]? = some (.cells #[.int .i64 ((rd_T41 l0 x7_1).f0), .string ((rd_T41 l0 x7_1).f1.f0), .int .i64 ((rd_T41 l0 x7_1).f1.f1), .int .i64 ((rd_T41 l0 x7_1).f1.f2), .bool ((rd_T41 l0 x7_1).f2), .complex .f64 ((rd_T41 l0 x7_1).f3).re ((rd_T41 l0 x7_1).f3).im, .string ((rd_T41 l0 x7_1).f4), .bool ((rd_T41 l0 x7_1).f5)] 41 (0, 0))) := ⟨by (with_reducible repeat (first | refine blk_drewN ?_ _ | refine blk_drew ?_ | refine blk_alloc ?_ _)); refine blk_put (cs := #[.int .i64 ((rd_T41 l0 x7_1).f0), .string ((rd_T41 l0 x7_1).f1.f0), .int .i64 ((rd_T41 l0 x7_1).f1.f1), .int .i64 ((rd_T41 l0 x7_1).f1.f2), .bool ((rd_T41 l0 x7_1).f2), .complex .f64 ((rd_T41 l0 x7_1).f3).re ((rd_T41 l0 x7_1).f3).im, .string ((rd_T41 l0 x7_1).f4), .bool false]) ?_ 7 _ rfl; (with_reducible repeat (first | refine blk_drewN ?_ _ | refine blk_drew ?_ | refine blk_alloc ?_ _)); refine blk_put (cs := #[.int .i64 ((rd_T41 l0 x7_1).f0), .string ((rd_T41 l0 x7_1).f1.f0), .int .i64 ((rd_T41 l0 x7_1).f1.f1), .int .i64 ((rd_T41 l0 x7_1).f1.f2), .bool ((rd_T41 l0 x7_1).f2), .complex .f64 ((rd_T41 l0 x7_1).f3).re ((rd_T41 l0 x7_1).f3).im, .string (⟨#[]⟩ : ByteArray), .bool false]) ?_ 6 _ rfl; (with_reducible repeat (first | refine blk_drewN ?_ _ | refine blk_drew ?_ | refine blk_alloc ?_ _)); refine blk_put (cs := #[.int .i64 ((rd_T41 l0 x7_1).f0), .string ((rd_T41 l0 x7_1).f1.f0), .int .i64 ((rd_T41 l0 x7_1).f1.f1), .int .i64 ((rd_T41 l0 x7_1).f1.f2), .bool ((rd_T41 l0 x7_1).f2), .complex .f64 0 0, .string (⟨#[]⟩ : ByteArray), .bool false]) ?_ 5 _ rfl; (with_reducible repeat (first | refine blk_drewN ?_ _ | refine blk_drew ?_ | refine blk_alloc ?_ _)); refine blk_put (cs := #[.int .i64 ((rd_T41 l0 x7_1).f0), .string ((rd_T41 l0 x7_1).f1.f0), .int .i64 ((rd_T41 l0 x7_1).f1.f1), .int .i64 ((rd_T41 l0 x7_1).f1.f2), .bool false, .complex .f64 0 0, .string (⟨#[]⟩ : ByteArray), .bool false]) ?_ 4 _ rfl; (with_reducible repeat (first | refine blk_drewN ?_ _ | refine blk_drew ?_ | refine blk_alloc ?_ _)); refine blk_put (cs := #[.int .i64 ((rd_T41 l0 x7_1).f0), .string ((rd_T41 l0 x7_1).f1.f0), .int .i64 ((rd_T41 l0 x7_1).f1.f1), .int .i64 0, .bool false, .complex .f64 0 0, .string (⟨#[]⟩ : ByteArray), .bool false]) ?_ 3 _ rfl; (with_reducible repeat (first | refine blk_drewN ?_ _ | refine blk_drew ?_ | refine blk_alloc ?_ _)); refine blk_put (cs := #[.int .i64 ((rd_T41 l0 x7_1).f0), .string ((rd_T41 l0 x7_1).f1.f0), .int .i64 0, .int .i64 0, .bool false, .complex .f64 0 0, .string (⟨#[]⟩ : ByteArray), .bool false]) ?_ 2 _ rfl; (with_reducible repeat (first | refine blk_drewN ?_ _ | refine blk_drew ?_ | refine blk_alloc ?_ _)); refine blk_put (cs := #[.int .i64 ((rd_T41 l0 x7_1).f0), .string (⟨#[]⟩ : ByteArray), .int .i64 0, .int .i64 0, .bool false, .complex .f64 0 0, .string (⟨#[]⟩ : ByteArray), .bool false]) ?_ 1 _ rfl; (with_reducible repeat (first | refine blk_drewN ?_ _ | refine blk_drew ?_ | refine blk_alloc ?_ _)); refine blk_put (cs := #[.int .i64 0, .string (⟨#[]⟩ : ByteArray), .int .i64 0, .int .i64 0, .bool false, .complex .f64 0 0, .string (⟨#[]⟩ : ByteArray), .bool false]) ?_ 0 _ rfl; (with_reducible repeat (first | refine blk_drewN ?_ _ | refine blk_drew ?_ | refine blk_alloc ?_ _)); exact BK206.out⟩
       have n1_ : Aside0 (Below w.heap.size w ((((((((w30.setCell ⟨gb206, 0, none⟩ (.int .i64 ((rd_T41 l0 x7_1).f0))).setCell ⟨gb206, 1, none⟩ (.string ((rd_T41 l0 x7_1).f1.f0))).setCell ⟨gb206, 2, none⟩ (.int .i64 ((rd_T41 l0 x7_1).f1.f1))).setCell ⟨gb206, 3, none⟩ (.int .i64 ((rd_T41 l0 x7_1).f1.f2))).setCell ⟨gb206, 4, none⟩ (.bool ((rd_T41 l0 x7_1).f2))).setCell ⟨gb206, 5, none⟩ (.complex .f64 ((rd_T41 l0 x7_1).f3).re ((rd_T41 l0 x7_1).f3).im)).setCell ⟨gb206, 6, none⟩ (.string ((rd_T41 l0 x7_1).f4))).setCell ⟨gb206, 7, none⟩ (.bool ((rd_T41 l0 x7_1).f5)))) := ⟨by repeat (first | (with_reducible first | exact HB.out | apply below_alloc | apply pw_below_drewN | apply below_drew1 | refine below_set ?_ GE206.out) | exact HB.out)⟩
       (try clear BK206)
       (try clear HB)
       generalize ((((((((w30.setCell ⟨gb206, 0, none⟩ (.int .i64 ((rd_T41 l0 x7_1).f0))).setCell ⟨gb206, 1, none⟩ (.string ((rd_T41 l0 x7_1).f1.f0))).setCell ⟨gb206, 2, none⟩ (.int .i64 ((rd_T41 l0 x7_1).f1.f1))).setCell ⟨gb206, 3, none⟩ (.int .i64 ((rd_T41 l0 x7_1).f1.f2))).setCell ⟨gb206, 4, none⟩ (.bool ((rd_T41 l0 x7_1).f2))).setCell ⟨gb206, 5, none⟩ (.complex .f64 ((rd_T41 l0 x7_1).f3).re ((rd_T41 l0 x7_1).f3).im)).setCell ⟨gb206, 6, none⟩ (.string ((rd_T41 l0 x7_1).f4))).setCell ⟨gb206, 7, none⟩ (.bool ((rd_T41 l0 x7_1).f5))) = w32 at n0_ n1_ ⊢
       have BK206 := n0_
       have HB := n1_
       clear n0_ n1_
       replace BK206 := Aside0.mk (blk_drew BK206.out)
       replace HB := Aside0.mk (below_drew1 HB.out)
       refine start_ (n := 17) (S := fun w' => w'.cell? ⟨gb206, 0, none⟩ = some (.int .i64 ((rd_T41 l0 x7_1).f0)) ∧ w'.cell? ⟨gb206, 1, none⟩ = some (.string ((rd_T41 l0 x7_1).f1.f0)) ∧ w'.cell? ⟨gb206, 2, none⟩ = some (.int .i64 ((rd_T41 l0 x7_1).f1.f1)) ∧ w'.cell? ⟨gb206, 3, none⟩ = some (.int .i64 ((rd_T41 l0 x7_1).f1.f2)) ∧ w'.cell? ⟨gb206, 4, none⟩ = some (.bool ((rd_T41 l0 x7_1).f2)) ∧ w'.cell? ⟨gb206, 5, none⟩ = some (.complex .f64 ((rd_T41 l0 x7_1).f3).re ((rd_T41 l0 x7_1).f3).im) ∧ w'.cell? ⟨gb206, 6, none⟩ = some (.string ((rd_T41 l0 x7_1).f4)) ∧ w'.cell? ⟨gb206, 7, none⟩ = some (.bool ((rd_T41 l0 x7_1).f5))) (ds := []) #[false, false, false, false, false, false, false, false, false, false, false, false, false, false, false, false, false] (by kernel_rfl) rfl rfl ⟨(blk_cell BK206.out 0).trans rfl, (blk_cell BK206.out 1).trans rfl, (blk_cell BK206.out 2).trans rfl, (blk_cell BK206.out 3).trans rfl, (blk_cell BK206.out 4).trans rfl, (blk_cell BK206.out 5).trans rfl, (blk_cell BK206.out 6).trans rfl, (blk_cell BK206.out 7).trans rfl⟩ (fun hHeld => ?_); refine with_tabW store_Right.tab4 store_Right.bits4 (fun HT_ HW_ => ?_)
       generalize w32.drew = w33 at BK206 HB hHeld ⊢
       refine t_ 0 12 (mk_ 17 0x1) hHeld ?_
       refine one_ (i := 1) (N := some 13) #[true, true, false, false, false, false, false, false, false, false, false, false, false, false, false, false, false] rfl rfl (one_of HT_.out (by kernel_rfl)) (by decide) (fun K hK => ?_)
       refine goes_ Try.func41 (by kernel_rfl) rfl #[.agg #[.int .i64 ((rd_T41 l0 x7_1).f0), .string ((rd_T41 l0 x7_1).f1.f0), .int .i64 ((rd_T41 l0 x7_1).f1.f1), .int .i64 ((rd_T41 l0 x7_1).f1.f2), .bool ((rd_T41 l0 x7_1).f2), .complex .f64 ((rd_T41 l0 x7_1).f3).re ((rd_T41 l0 x7_1).f3).im, .string ((rd_T41 l0 x7_1).f4), .bool ((rd_T41 l0 x7_1).f5)]] (by rfl) rfl rfl zq19_2 ?_
       with_reducible refine (item_Right.calls ((rd_T41 l0 x7_1).f0) ((rd_T41 l0 x7_1).f1.f0) ((rd_T41 l0 x7_1).f1.f1) ((rd_T41 l0 x7_1).f1.f2) ((rd_T41 l0 x7_1).f2) ((rd_T41 l0 x7_1).f3) ((rd_T41 l0 x7_1).f4) ((rd_T41 l0 x7_1).f5) false _ A5.out).mono ?_
       rintro e w34 ⟨rfl, hb⟩
       refine ⟨_, rfl, ?_⟩
       replace BK206 := Aside0.mk (blk_below (g := gb206) (o := .cells #[.int .i64 ((rd_T41 l0 x7_1).f0), .string ((rd_T41 l0 x7_1).f1.f0), .int .i64 ((rd_T41 l0 x7_1).f1.f1), .int .i64 ((rd_T41 l0 x7_1).f1.f2), .bool ((rd_T41 l0 x7_1).f2), .complex .f64 ((rd_T41 l0 x7_1).f3).re ((rd_T41 l0 x7_1).f3).im, .string ((rd_T41 l0 x7_1).f4), .bool ((rd_T41 l0 x7_1).f5)] 41 (0, 0)) zq19_4 hb)
       replace HB := Aside0.mk (below_step zq19_1 hb)
       (try clear hb)
       (try clear hb2)
       (try clear hk)
       (try clear hi)
       refine hK.out _ _ ⟨(blk_cell BK206.out 0).trans rfl, (blk_cell BK206.out 1).trans rfl, (blk_cell BK206.out 2).trans rfl, (blk_cell BK206.out 3).trans rfl, (blk_cell BK206.out 4).trans rfl, (blk_cell BK206.out 5).trans rfl, (blk_cell BK206.out 6).trans rfl, (blk_cell BK206.out 7).trans rfl⟩ (fun hHeld => ?_)
       clear hK K
       refine norm_ (a' := ?_) ?_ ?_
       rotate_left
       ·show Act.put _ (some 13) _ = _
        simp only [Act.put, List.setIfInBounds_toArray, List.set_cons_zero, List.set_cons_succ, i64_w, i32_w]
        rfl
       refine p_ 2 14 (mk_ 17 0x7) ?_
       refine p_ 3 15 (mk_ 17 0xf) ?_
       refine u_ 4 16 (mk_ 17 0x1f) ?_
       refine u_ 5 17 (mk_ 17 0x3f) ?_
       refine u_ 6 18 (mk_ 17 0x7f) ?_
       refine u_ 7 19 (mk_ 17 0xff) ?_
       refine u_ 8 20 (mk_ 17 0x1ff) ?_
       refine u_ 9 21 (mk_ 17 0x3ff) ?_
       refine u_ 10 22 (mk_ 17 0x7ff) ?_
       refine u_ 11 23 (mk_ 17 0xfff) ?_
       refine u_ 12 24 (mk_ 17 0x1fff) ?_
       refine u_ 13 25 (mk_ 17 0x3fff) ?_
       refine u_ 14 26 (mk_ 17 0x7fff) ?_
       refine u_ 15 27 (mk_ 17 0xffff) ?_
       refine p_ 16 28 (mk_ 17 0x1ffff) ?_
       refine done_ (done_of HT_.out (by kernel_rfl)) ?_
       try go_wp2
       go_ret
       exact ⟨by first | rfl | (simp [errW_none, errW_some] <;> rfl) | (simp [*, errW_none, errW_some] <;> rfl), by repeat (first | (with_reducible first | exact HB.out | apply below_alloc | apply pw_below_drewN | apply below_drew1 | refine below_set ?_ GE206.out) | exact HB.out)⟩
     ·rw [if_neg c4] at H
      exact absurd H (by simp)
    ·rw [if_neg c3] at H
     exact absurd H (by simp)
   ·rw [if_neg c2] at H
    have c2b0 : decide (x7_1 < (l0.length : Int)) = false := decide_eq_false c2
    clear c2
    obtain rfl := Option.some.inj H
    go_wp2
    go_ret
    exact ⟨by first | rfl | (simp [errW_none, errW_some] <;> rfl) | (simp [*, errW_none, errW_some] <;> rfl), by repeat (first | (with_reducible first | exact HB.out | apply below_alloc | apply pw_below_drewN | apply below_drew1) | exact HB.out)⟩

/-! ### store_Drop: function 21 -/
attribute [local go_sem] run_store_complex
set_option maxHeartbeats 1600000 in
set_option maxRecDepth 100000 in
theorem std_index (A0 : Option Addr) (c0 : Nat) (l0 : List S41) (cb : Value) (p : S41 → Bool) (w : World) (hr0 : Kd.C k41 w A0 l0.length l0)
  (hp : ∀ (x : S41) (W : World), x ∈ l0 → Below w.heap.size w W → Calls Try.prog 45 #[.agg #[.int .i64 x.f0, .string x.f1.f0, .int .i64 x.f1.f1, .int .i64 x.f1.f2, .bool x.f2, .complex .f64 x.f3.re x.f3.im, .string x.f4, .bool x.f5], cb] W fun e w' => e = .returned (.bool (p x)) ∧ Below W.heap.size W w') :
  Calls Try.prog 65 #[.slice A0 l0.length c0, .func (.func 45) #[] #[cb]] w fun e w' => e = .returned (.int .i64 (idxI p l0)) ∧ Below w.heap.size w w' := by
 have hlen := hr0.2.1
 have HR0 := Aside0.mk hr0
 have HP := Aside0.mk hp
 clear hr0 hp
 have HF := Aside0.mk (fun i hi hn h => idxI_found p z41 l0 i hi hn h)
 have HN := Aside0.mk (fun hn => idxI_none p z41 l0 hn)
 generalize idxI p l0 = r at *
 generalize hn : l0.length = n at *
 have HL := Aside0.mk hn
 clear hn
 have HB := Aside0.mk (Below.refl w.heap.size w)
 have hut := Try.underlying41
 go_enter Try.func65, Try.ntmps65
 go_wp2
 go_loopw [8] (fun vi wr => ∃ i : Nat, vi = .int .i64 i ∧ i ≤ n ∧ Aside0 (∀ j, j < i → p (l0.getD j z41) = false) ∧ Aside0 (Below w.heap.size w wr)) (fun vi _ => n - (intOf vi).toNat)
 case atStart => exact ⟨0, rfl, Nat.zero_le _, ⟨fun j hj => absurd hj (Nat.not_lt_zero _)⟩, HB⟩
 case round =>
  clear HB
  obtain ⟨i, rfl, hin, HA, HB⟩ := hrel
  by_cases hlt : i < n
  ·obtain ⟨ad, hA, hx0, hx1, hx2, hx3, hx4, hx5, hx6, hx7⟩ := at_T41 HR0.out (i : Int) (by omega) (by omega)
   obtain rfl := hA
   have pm := eq_true (show (0 : Int) ≤ (i : Int) by omega)
   have qm := eq_true (show (i : Int) < (n : Int) by omega)
   replace hx0 := (HB.out.cell (World.block_lt_of_cell? w _ hx0)).trans hx0; replace hx1 := (HB.out.cell (World.block_lt_of_cell? w _ hx1)).trans hx1; replace hx2 := (HB.out.cell (World.block_lt_of_cell? w _ hx2)).trans hx2; replace hx3 := (HB.out.cell (World.block_lt_of_cell? w _ hx3)).trans hx3; replace hx4 := (HB.out.cell (World.block_lt_of_cell? w _ hx4)).trans hx4; replace hx5 := (HB.out.cell (World.block_lt_of_cell? w _ hx5)).trans hx5; replace hx6 := (HB.out.cell (World.block_lt_of_cell? w _ hx6)).trans hx6; replace hx7 := (HB.out.cell (World.block_lt_of_cell? w _ hx7)).trans hx7
   have hel : rd_T41 l0 (i : Int) = l0.getD i z41 := rfl
   simp only [Int.toNat_natCast, hel] at hx0 hx1 hx2 hx3 hx4 hx5 hx6 hx7
   have HK := Aside0.mk (HP.out (l0.getD i z41)  wr (by rw [← List.getElem_eq_getD (h := by have := HL.out; omega)]; exact List.getElem_mem _) HB.out)
   by_cases hpx : p (l0.getD i z41) = true
   ·have HRES := Aside0.mk (HF.out i (by have := HL.out; omega) HA.out hpx)
    rw [hpx] at HK
    clear hel hpx
    go_wp2_with fail
    refine HK.out.mono ?_
    rintro e w' ⟨rfl, hb1⟩
    have HB1 := Aside0.mk (below_step HB.out hb1)
    clear hb1
    go_wp2_with fail
    go_ret
    exact ⟨by rw [HRES.out]; rfl, HB1.out⟩
   ·have hpf : p (l0.getD i z41) = false := by simpa using hpx
    rw [hpf] at HK
    have HPF := Aside0.mk hpf
    clear hel hpx hpf
    go_wp2_with fail
    refine HK.out.mono ?_
    rintro e w' ⟨rfl, hb1⟩
    have HB1 := Aside0.mk (below_step HB.out hb1)
    clear hb1
    go_wp2_with fail
    go_roundw
    case rel => exact ⟨i + 1, by go_num, by omega, ⟨fun j hj => by
     by_cases e : j = i
     ·subst e; exact HPF.out
     ·exact HA.out j (by omega)⟩, HB1⟩
    case measure => simp [intOf]; omega
  ·have hge : decide ((i : Int) < (n : Int)) = false := by simp; omega
   have HRES := Aside0.mk (HN.out (fun j hj => HA.out j (by have := HL.out; omega)))
   go_wp2_with fail
   go_ret
   exact ⟨by rw [HRES.out]; rfl, HB.out⟩

set_option maxHeartbeats 3200000 in
set_option maxRecDepth 100000 in
theorem std_deletek (w : World) (base : Nat) (ok : Nat → Prop) (v : Value) (l : List S41) (cb : Value) (p : S41 → Bool) (ho : Kd.R k41 41 w base ok v l) (hbase : base ≤ w.heap.size)
  (hp : ∀ (x : S41) (W : World), x ∈ l → Below base w W → Calls Try.prog 45 #[.agg #[.int .i64 x.f0, .string x.f1.f0, .int .i64 x.f1.f1, .int .i64 x.f1.f2, .bool x.f2, .complex .f64 x.f3.re x.f3.im, .string x.f4, .bool x.f5], cb] W fun e w' => e = .returned (.bool (p x)) ∧ Below W.heap.size W w') :
  Calls Try.prog 44 #[v, .func (.func 45) #[] #[cb]] w fun e w' => ∃ v' : Value, e = .returned v' ∧ Kd.R k41 41 w' base ok v' (l.filter fun x => !p x) ∧ Below base w w' ∧ ∀ k, k < w.heap.size → some k ≠ v.ownBlock → w'.heap[k]? = w.heap[k]? := by
 obtain ⟨A, c, rfl, hlc, hC⟩ := Kd.R_reads ho
 have hix := std_index A c l cb p w hC (fun x  W hx hW => hp x  W hx ⟨hW.os, hW.tape, hW.output, by have := hW.size; omega, fun k hk => hW.block k (by omega)⟩)
 have hle := idxP_le p l
 have HIX := Aside0.mk hix
 have HP := Aside0.mk hp
 have HO := Aside0.mk ho
 clear hix hp hC
 obtain ⟨i0, hi0⟩ : ∃ i0, idxP p l = i0 := ⟨_, rfl⟩
 have hut := Try.underlying41
 by_cases hlt : i0 < l.length
 ·have hq : idxI p l = (i0 : Int) := by unfold idxI; rw [hi0, if_pos hlt]
  rw [hq] at HIX
  have hq1 : ((i0 : Int) == -1) = false := by rw [beq_eq_false_iff_ne]; omega
  have hne : l ≠ [] := fun e => by rw [e] at hlt; simp at hlt
  obtain ⟨g, cap, cur, ev, hg, hk, hh, h2, h3, h4, hpp⟩ := R_open ho hne
  injection ev with eA _ ec
  subst eA; subst ec
  clear hh h4 hpp ho hq
  have hw1 : IntKind.i64.wrap ((i0 : Int) + 1) = (i0 : Int) + 1 := by
   have : maxLen = 9223372036854775807 := rfl
   rw [IntKind.wrap_i64] <;> omega
  go_enter Try.func44, Try.ntmps44
  go_wp2_with fail
  refine HIX.out.mono ?_
  rintro e w1 ⟨rfl, hb1⟩
  have HO1 := Aside0.mk (Kd.R_below HO.out hb1)
  have HB1 := Aside0.mk (below_then (Below.refl base w) hbase hb1)
  have HK1 := Aside0.mk (show ∀ k, k < w.heap.size → k ≠ g → w1.heap[k]? = w.heap[k]? from fun k hk _ => hb1.block k hk)
  clear hb1 HO HIX
  go_wp2_with fail
  have HS := Aside0.mk (del_start p z41 l (by rw [hi0]; exact hlt))
  rw [hi0] at HS
  generalize hn : l.length = n at *
  have HL := Aside0.mk hn
  clear hn hi0 hq1 hw1
  have hmax : maxLen = 9223372036854775807 := rfl
  go_loopw [5, 6] (fun vi vj wr => ∃ (i j : Nat) (L : List S41), vi = .int .i64 i ∧ vj = .int .i64 j ∧ i < j ∧ j ≤ n ∧ Aside0 (L.length = n) ∧ Aside0 (L.take i = (l.take j).filter (fun x => !p x)) ∧ Aside0 (L.drop j = l.drop j) ∧ Aside0 (Kd.R k41 41 wr base ok (.slice (some ⟨g, 0, none⟩) n c) L) ∧ Aside0 (Below base w wr) ∧ Aside0 (∀ k, k < w.heap.size → k ≠ g → wr.heap[k]? = w.heap[k]?)) (fun _ vj _ => n - (intOf vj).toNat)
  case atStart => exact ⟨i0, i0 + 1, l, rfl, by go_num, by omega, by omega, HL, HS, ⟨rfl⟩, HO1, HB1, HK1⟩
  case round =>
   clear HS HO1 HB1 HK1
   obtain ⟨i, j, L, rfl, rfl, hij, hjn, HLL, HT, HD, HO, HB, HKP⟩ := hrel
   by_cases hj : j < n
   ·have hC := (Kd.R_reads' HO.out).2.2
    obtain ⟨ad, hA, hx0, hx1, hx2, hx3, hx4, hx5, hx6, hx7⟩ := at_T41 hC (j : Int) (by omega) (by have := HLL.out; omega)
    injection hA with hA
    subst hA
    have pm := eq_true (show (0 : Int) ≤ (j : Int) by omega)
    have qm := eq_true (show (j : Int) < (n : Int) by omega)
    have hel : rd_T41 L (j : Int) = l.getD j z41 := drop_get z41 HD.out (by have := HL.out; omega)
    simp only [Int.toNat_natCast, hel, Addr.add_lit, Nat.zero_add] at hx0 hx1 hx2 hx3 hx4 hx5 hx6 hx7
    clear hC
    have HMEM := Aside0.mk (show l.getD j z41 ∈ l by rw [← List.getElem_eq_getD (h := by have := HL.out; omega)]; exact List.getElem_mem _)
    generalize hx : l.getD j z41 = x at hx0 hx1 hx2 hx3 hx4 hx5 hx6 hx7 hel HMEM
    have HX := Aside0.mk hx
    clear hx hel
    go_wp2_with fail
    have HBA := Aside0.mk (HB.out.alloc (by have := below_size' HB.out hbase; omega) (.cells #[.int .i64 x.f0, .string x.f1.f0, .int .i64 x.f1.f1, .int .i64 x.f1.f2, .bool x.f2, .complex .f64 x.f3.re x.f3.im, .string x.f4, .bool x.f5] 41))
    have HOA := Aside0.mk (Kd.R_below HO.out (below_alloc (Below.refl _ _) (.cells #[.int .i64 x.f0, .string x.f1.f0, .int .i64 x.f1.f1, .int .i64 x.f1.f2, .bool x.f2, .complex .f64 x.f3.re x.f3.im, .string x.f4, .bool x.f5] 41)))
    have BK := Aside0.mk (blk_new wr (.cells #[.int .i64 x.f0, .string x.f1.f0, .int .i64 x.f1.f1, .int .i64 x.f1.f2, .bool x.f2, .complex .f64 x.f3.re x.f3.im, .string x.f4, .bool x.f5] 41))
    have HKA := Aside0.mk (show ∀ (W : World), Below (wr.alloc (.cells #[.int .i64 x.f0, .string x.f1.f0, .int .i64 x.f1.f1, .int .i64 x.f1.f2, .bool x.f2, .complex .f64 x.f3.re x.f3.im, .string x.f4, .bool x.f5] 41)).heap.size (wr.alloc (.cells #[.int .i64 x.f0, .string x.f1.f0, .int .i64 x.f1.f1, .int .i64 x.f1.f2, .bool x.f2, .complex .f64 x.f3.re x.f3.im, .string x.f4, .bool x.f5] 41)) W → ∀ k, k < w.heap.size → k ≠ g → W.heap[k]? = w.heap[k]? from fun W hW k hk hne => ((hW.block k (by have := HB.out.size; simp; omega)).trans ((below_alloc (Below.refl _ _) _).block k (by have := HB.out.size; omega))).trans (HKP.out k hk hne))
    have HK := Aside0.mk (HP.out x  _ HMEM.out HBA.out)
    by_cases hpx : p x = true
    ·rw [hpx] at HK
     have HPX := Aside0.mk hpx
     clear hpx
     refine HK.out.mono ?_
     rintro e w' ⟨rfl, hb1⟩
     have HB1 := Aside0.mk (below_then HBA.out (below_size' HBA.out hbase) hb1)
     have HO1 := Aside0.mk (Kd.R_below HOA.out hb1)
     have HK2 := Aside0.mk (HKA.out _ hb1)
     clear hb1
     go_wp2_with fail
     go_roundw
     case rel => exact ⟨i, j + 1, L, rfl, by go_num, by omega, by omega, HLL, ⟨del_skip p z41 HT.out (by have := HL.out; omega) (by rw [HX.out]; exact HPX.out)⟩, ⟨drop_succ_eq HD.out⟩, HO1, HB1, HK2⟩
     case measure => simp [intOf]; omega
    ·have hpf : p x = false := by simpa using hpx
     rw [hpf] at HK
     have HPX := Aside0.mk hpf
     clear hpx hpf
     refine HK.out.mono ?_
     rintro e w' ⟨rfl, hb1⟩
     have HB1 := Aside0.mk (below_then HBA.out (below_size' HBA.out hbase) hb1)
     have HO1 := Aside0.mk (Kd.R_below HOA.out hb1)
     have BK1 := Aside0.mk (blk_below BK.out hb1)
     have HK2 := Aside0.mk (HKA.out _ hb1)
     clear hb1
     have hin : i < n := by omega
     have pi := eq_true (show (0 : Int) ≤ (i : Int) by omega)
     have qi := eq_true (show (i : Int) < (n : Int) by omega)
     obtain ⟨gI, capI, curI, evI, _, _, hhI, _, _, _, _⟩ := R_open HO1.out (fun e => by have := HLL.out; rw [e] at this; simp at this; omega)
     injection evI with eA eN eC
     clear eN eC
     injection eA with eA
     injection eA with eA
     subst eA
     obtain ⟨adI, hAI, hy0, hy1, hy2, hy3, hy4, hy5, hy6, hy7⟩ := at_T41 (Kd.R_reads' HO1.out).2.2 (i : Int) (by omega) (by have := HLL.out; omega)
     injection hAI with hAI
     subst hAI
     simp only [Int.toNat_natCast, Addr.add_lit, Nat.zero_add] at hy0 hy1 hy2 hy3 hy4 hy5 hy6 hy7
     have hq0 : w'.cell? ⟨wr.heap.size, 0, none⟩ = some (.int .i64 x.f0) := (blk_cell BK1.out 0).trans rfl; have hq1 : w'.cell? ⟨wr.heap.size, 1, none⟩ = some (.string x.f1.f0) := (blk_cell BK1.out 1).trans rfl; have hq2 : w'.cell? ⟨wr.heap.size, 2, none⟩ = some (.int .i64 x.f1.f1) := (blk_cell BK1.out 2).trans rfl; have hq3 : w'.cell? ⟨wr.heap.size, 3, none⟩ = some (.int .i64 x.f1.f2) := (blk_cell BK1.out 3).trans rfl; have hq4 : w'.cell? ⟨wr.heap.size, 4, none⟩ = some (.bool x.f2) := (blk_cell BK1.out 4).trans rfl; have hq5 : w'.cell? ⟨wr.heap.size, 5, none⟩ = some (.complex .f64 x.f3.re x.f3.im) := (blk_cell BK1.out 5).trans rfl; have hq6 : w'.cell? ⟨wr.heap.size, 6, none⟩ = some (.string x.f4) := (blk_cell BK1.out 6).trans rfl; have hq7 : w'.cell? ⟨wr.heap.size, 7, none⟩ = some (.bool x.f5) := (blk_cell BK1.out 7).trans rfl
     have hz0 : w'.frozen? ⟨g, i * 8, none⟩ = false := blk_frozen hhI _; have hz1 : w'.frozen? ⟨g, i * 8 + 1, none⟩ = false := blk_frozen hhI _; have hz2 : w'.frozen? ⟨g, i * 8 + 2, none⟩ = false := blk_frozen hhI _; have hz3 : w'.frozen? ⟨g, i * 8 + 3, none⟩ = false := blk_frozen hhI _; have hz4 : w'.frozen? ⟨g, i * 8 + 4, none⟩ = false := blk_frozen hhI _; have hz5 : w'.frozen? ⟨g, i * 8 + 5, none⟩ = false := blk_frozen hhI _; have hz6 : w'.frozen? ⟨g, i * 8 + 6, none⟩ = false := blk_frozen hhI _; have hz7 : w'.frozen? ⟨g, i * 8 + 7, none⟩ = false := blk_frozen hhI _
     have hres := Kd.R_seg (d := k41) (W := w') (okp := fun _ => False) HO1.out (i : Int) (by omega) (by omega) (c := [.int .i64 (rd_T41 L (i : Int)).f0, .string (rd_T41 L (i : Int)).f1.f0, .int .i64 (rd_T41 L (i : Int)).f1.f1, .int .i64 (rd_T41 L (i : Int)).f1.f2, .bool (rd_T41 L (i : Int)).f2, .complex .f64 (rd_T41 L (i : Int)).f3.re (rd_T41 L (i : Int)).f3.im, .string (rd_T41 L (i : Int)).f4, .bool (rd_T41 L (i : Int)).f5]) (seg := [.int .i64 x.f0, .string x.f1.f0, .int .i64 x.f1.f1, .int .i64 x.f1.f2, .bool x.f2, .complex .f64 x.f3.re x.f3.im, .string x.f4, .bool x.f5]) (j := 0) rfl (fun q u hq => by rw [Int.toNat_natCast]; rcases q with _ | _ | _ | _ | _ | _ | _ | _ | q; (cases hq; exact hy0); (cases hq; exact hy1); (cases hq; exact hy2); (cases hq; exact hy3); (cases hq; exact hy4); (cases hq; exact hy5); (cases hq; exact hy6); (cases hq; exact hy7); (cases hq)) (show 0 + 8 ≤ 8 by decide) (x' := x) (k41_mkM _ _ _ x) (fun _ h => h.elim)
     have HR := Aside0.mk hres.1
     have HG := Aside0.mk (HB1.out.grown hres.2 (below_size' HB1.out hbase) (fun k e => by injection e with e; omega))
     have HK3 := Aside0.mk (fun k (hk : k < w.heap.size) (hne : k ≠ g) => (hres.2.block k (by have := HB1.out.size; omega) (fun e => by injection e with e; exact hne e)).trans (HK2.out k hk hne))
     clear hres hhI
     go_wp2_with fail
     go_roundw
     case rel => exact ⟨i + 1, j + 1, L.set i x, by go_num, by go_num, by omega, by omega, ⟨by rw [List.length_set]; exact HLL.out⟩, ⟨by rw [← HX.out]; exact del_keep p z41 HT.out (by have := HL.out; omega) (by have := HLL.out; omega) (by rw [HX.out]; exact HPX.out)⟩, ⟨del_drop x HD.out hij⟩, HR, HG, HK3⟩
     case measure => simp [intOf]; omega
   ·have hge : decide ((j : Int) < (n : Int)) = false := by simp; omega
    have hjj : j = n := by omega
    obtain ⟨i1, hi1, hz1, hsz1, hby1⟩ := info_parts info41
    obtain ⟨gI, capI, curI, evI, hgI, hkI, hhI, h2I, h3I, h4I, hpI⟩ := R_open HO.out (fun e => by have := HLL.out; rw [e] at this; simp at this; omega)
    injection evI with eA eN eC
    clear eN
    injection eA with eA
    injection eA with eA
    subst eA; subst eC
    rw [HLL.out] at h2I
    have hin : i < n := by omega
    have c1 : ∀ W : World, (Instr.slice 33 (.slice (some ⟨g, 0, none⟩) n c) (some (.int .i64 (i : Int))) none none).run Try.prog W = .ok (.slice (some ⟨g, i * 8, none⟩) (n - i) (c - i)) W := by
     intro W
     rw [cut_from (P := Try.prog) 33 41 .i64 Try.underlying33 hi1 8 hsz1 (some ⟨g, 0, none⟩) n c (i : Int) (by omega) (by omega) W, Int.toNat_natCast, if_neg (by omega), Option.map_some, Addr.add_lit, Nat.zero_add]
    have c2 := cut_to (P := Try.prog) 33 41 .i64 Try.underlying33 hi1 (some ⟨g, 0, none⟩) n c (i : Int) (by omega) (by omega) h2I
    rw [Int.toNat_natCast] at c2
    have hcl := fun ty => run_clear_k (P := Try.prog) wr 33 41 ty _ [.int .i64 0, .string ⟨#[]⟩, .int .i64 0, .int .i64 0, .bool false, .complex .f64 0 0, .string ⟨#[]⟩, .bool false] Try.underlying33 Try.zeroValue41 rfl (by decide) (by decide) g (i * 8) (n - i) (c - i) (by omega) (fun q hq => by
     have hq' : q < (n - i) * 8 := hq
     rw [blk_cell hhI, Array.getElem?_eq_getElem (by have h4' : curI.size = c * 8 := h4I; omega)]; rfl) (fun q _ => blk_frozen hhI _)
    have hfin := R_cut_clear (d := k41) (i := i) hgI hkI hhI (by rw [HLL.out]; exact h2I) h3I h4I hpI (by rw [HLL.out]; omega) (List.replicate (n - i) ([.int .i64 0, .string ⟨#[]⟩, .int .i64 0, .int .i64 0, .bool false, .complex .f64 0 0, .string ⟨#[]⟩, .bool false] : List Value)).flatten (by
     have h4' : curI.size = c * 8 := h4I
     have hl : ((List.replicate (n - i) ([.int .i64 0, .string ⟨#[]⟩, .int .i64 0, .int .i64 0, .bool false, .complex .f64 0 0, .string ⟨#[]⟩, .bool false] : List Value)).flatten).length = (n - i) * 8 := by simp
     rw [hl]
     show i * 8 + _ ≤ _
     omega)
    generalize (List.replicate (n - i) ([.int .i64 0, .string ⟨#[]⟩, .int .i64 0, .int .i64 0, .bool false, .complex .f64 0 0, .string ⟨#[]⟩, .bool false] : List Value)).flatten = vs at hcl hfin
    have HR := Aside0.mk (show Kd.R k41 41 (wr.setCells g (i * 8) vs) base ok (.slice (some ⟨g, 0, none⟩) i c) (l.filter fun x => !p x) from by
     have h := hfin.1
     rw [HT.out, hjj, List.take_of_length_le (by have := HL.out; omega)] at h
     exact h)
    have HG := Aside0.mk (show Below base w (wr.setCells g (i * 8) vs) from HB.out.grown hfin.2 (below_size' HB.out hbase) (fun k e => by injection e with e; omega))
    have HK4 := Aside0.mk (show ∀ k, k < w.heap.size → k ≠ g → (wr.setCells g (i * 8) vs).heap[k]? = w.heap[k]? from fun k hk hne => (hfin.2.block k (by have := HB.out.size; omega) (fun e => by injection e with e; exact hne e)).trans (HKP.out k hk hne))
    clear hfin hhI hpI h4I
    go_wp2
    go_ret
    exact ⟨_, rfl, HR.out, HG.out, fun k hk hne => HK4.out k hk (fun e => hne (by rw [e]; simp [Value.ownBlock]))⟩
 ·have hq : idxI p l = -1 := by unfold idxI; rw [hi0, if_neg hlt]
  have HF := Aside0.mk (filter_none p l (by omega))
  rw [hq] at HIX
  clear hq hi0 hlt hle hlc ho
  go_enter Try.func44, Try.ntmps44
  go_wp2_with fail
  refine HIX.out.mono ?_
  rintro e w1 ⟨rfl, hb1⟩
  have HO1 := Aside0.mk (Kd.R_below HO.out hb1)
  have HB1 := Aside0.mk (below_then (Below.refl base w) hbase hb1)
  have HK1 := Aside0.mk hb1
  clear hb1 HO HIX
  go_wp2_with fail
  go_ret
  exact ⟨_, rfl, by rw [HF.out]; exact HO1.out, HB1.out, fun k hk _ => HK1.out.block k hk⟩
theorem std_delete (w : World) (base : Nat) (ok : Nat → Prop) (v : Value) (l : List S41) (cb : Value) (p : S41 → Bool) (ho : Kd.R k41 41 w base ok v l) (hbase : base ≤ w.heap.size)
  (hp : ∀ (x : S41) (W : World), x ∈ l → Below base w W → Calls Try.prog 45 #[.agg #[.int .i64 x.f0, .string x.f1.f0, .int .i64 x.f1.f1, .int .i64 x.f1.f2, .bool x.f2, .complex .f64 x.f3.re x.f3.im, .string x.f4, .bool x.f5], cb] W fun e w' => e = .returned (.bool (p x)) ∧ Below W.heap.size W w') :
  Calls Try.prog 44 #[v, .func (.func 45) #[] #[cb]] w fun e w' => ∃ v' : Value, e = .returned v' ∧ Kd.R k41 41 w' base ok v' (l.filter fun x => !p x) ∧ Below base w w' :=
 (std_deletek w base ok v l cb p ho hbase hp).mono fun e w' h => by
  obtain ⟨v', h1, h2, h3, -⟩ := h
  exact ⟨v', h1, h2, h3⟩

set_option maxHeartbeats 800000 in
set_option maxRecDepth 100000 in
theorem std_pred (x : S41) (B : Nat) (a1 : Int) (W : World) (hB : W.heap[B]? = some (.cells #[.int .i64 a1] 3 (0, 0))) :
  Calls Try.prog 45 #[.agg #[.int .i64 x.f0, .string x.f1.f0, .int .i64 x.f1.f1, .int .i64 x.f1.f2, .bool x.f2, .complex .f64 x.f3.re x.f3.im, .string x.f4, .bool x.f5], .pointer (some ⟨B, 0, none⟩)] W fun e w' => e = .returned (.bool (x.f0 == a1)) ∧ Below W.heap.size W w' := by
 have HB := Aside0.mk (below_alloc (Below.refl W.heap.size W) (.cells #[.int .i64 x.f0, .string x.f1.f0, .int .i64 x.f1.f1, .int .i64 x.f1.f2, .bool x.f2, .complex .f64 x.f3.re x.f3.im, .string x.f4, .bool x.f5] 41))
 have BK := Aside0.mk (blk_new W (.cells #[.int .i64 x.f0, .string x.f1.f0, .int .i64 x.f1.f1, .int .i64 x.f1.f2, .bool x.f2, .complex .f64 x.f3.re x.f3.im, .string x.f4, .bool x.f5] 41))
 have BB := Aside0.mk (blk_alloc hB (.cells #[.int .i64 x.f0, .string x.f1.f0, .int .i64 x.f1.f1, .int .i64 x.f1.f2, .bool x.f2, .complex .f64 x.f3.re x.f3.im, .string x.f4, .bool x.f5] 41))
 have hc0 : (W.alloc (.cells #[.int .i64 x.f0, .string x.f1.f0, .int .i64 x.f1.f1, .int .i64 x.f1.f2, .bool x.f2, .complex .f64 x.f3.re x.f3.im, .string x.f4, .bool x.f5] 41)).cell? ⟨W.heap.size, 0, none⟩ = some (.int .i64 x.f0) := (blk_cell BK.out 0).trans rfl
 have hc1 : (W.alloc (.cells #[.int .i64 x.f0, .string x.f1.f0, .int .i64 x.f1.f1, .int .i64 x.f1.f2, .bool x.f2, .complex .f64 x.f3.re x.f3.im, .string x.f4, .bool x.f5] 41)).cell? ⟨B, 0, none⟩ = some (.int .i64 a1) := (blk_cell BB.out 0).trans rfl
 have hut := Try.underlying41
 clear hB
 go_enter Try.func45, Try.ntmps45
 go_wp2
 go_ret
 exact ⟨rfl, HB.out⟩
def store_Drop.f (l0 : List S41) (a1 : Int) : Option (List S41) := if l0.length < 1000000000 then some (l0.filter fun x => !(x.f0 == a1)) else none
set_option maxHeartbeats 800000 in
set_option maxRecDepth 100000 in
theorem store_Drop.calls (A0 : Option Addr) (c0 : Nat) (l0 : List S41) (a1 : Int) (r : List S41) (w : World) (hr0 : Kd.C k41 w A0 l0.length l0) (hc0 : l0.length ≤ c0) (h : store_Drop.f l0 a1 = some r) :
  Calls Try.prog 21 #[.slice A0 l0.length c0, .int .i64 a1] w fun e w' => ∃ v0_ : Value, e = .returned (v0_) ∧ Kd.R k41 41 w' w.heap.size (fun _ => True) v0_ r ∧ Below w.heap.size w w' := by
 have hlim : l0.length < 1000000000 := by
  by_cases hx : l0.length < 1000000000
  ·exact hx
  ·rw [store_Drop.f, if_neg hx] at h; cases h
 have hr : (l0.filter fun x => !(x.f0 == a1)) = r := by rw [store_Drop.f, if_pos hlim] at h; exact Option.some.inj h
 have HR := Aside0.mk hr
 have HCL := Aside0.mk (fun W (hW : Below w.heap.size w W) => cloneI A0 c0 l0 W (Kd.C_below hr0 hW) hc0 hlim)
 have HB := Aside0.mk (below_alloc (Below.refl w.heap.size w) (.cells #[.int .i64 a1] 3))
 have BK := Aside0.mk (blk_new w (.cells #[.int .i64 a1] 3))
 clear hr h hlim hr0 hc0
 go_enter Try.func21, Try.ntmps21
 go_wp2_with fail
 refine (HCL.out _ HB.out).mono ?_
 rintro e w1 ⟨v1, rfl, ho1, hb1⟩
 have HO := Aside0.mk ho1
 have BK1 := Aside0.mk (blk_below BK.out hb1)
 have HB1 := Aside0.mk (below_step HB.out hb1)
 have hsz : (w.alloc (.cells #[.int .i64 a1] 3)).heap.size = w.heap.size + 1 := by simp
 have hz1 : w.heap.size + 1 ≤ w1.heap.size := by rw [← hsz]; exact hb1.size
 rw [hsz] at HO
 have HZ := Aside0.mk hz1
 clear ho1 hb1 hsz hz1 HCL
 go_wp2_with fail
 refine (std_delete w1 (w.heap.size + 1) (fun _ => True) v1 l0 (.pointer (some ⟨w.heap.size, 0, none⟩)) (fun x => x.f0 == a1) HO.out HZ.out (fun x W _ hW => std_pred x w.heap.size a1 W ((hW.block _ (by omega)).trans BK1.out))).mono ?_
 rintro e w2 ⟨v2, rfl, ho2, hb2⟩
 have HO2 := Aside0.mk (Kd.R_lower ho2 (show w.heap.size ≤ w.heap.size + 1 by omega))
 have HB2 := Aside0.mk (HB1.out.trans ⟨hb2.os, hb2.tape, hb2.output, hb2.size, fun k hk => hb2.block k (by omega)⟩)
 clear ho2 hb2
 go_wp2_with fail
 go_ret
 exact ⟨_, rfl, by rw [← HR.out]; exact HO2.out, HB2.out⟩

end Go.Proofs.Ytgdkgobplinelaa.P
