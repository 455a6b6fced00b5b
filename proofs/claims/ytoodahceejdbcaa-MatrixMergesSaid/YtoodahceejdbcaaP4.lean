-- Written by a program of this session (wip/pp.py over the kit's printer, with our own texts put in).
import Derived.Test.YtoodahceejdbcaaP0
import Derived.Test.YtoodahceejdbcaaP1
import Derived.Test.YtoodahceejdbcaaP3
namespace Go.Proofs.Ytoodahceejdbcaa.P
open Go.RowKit Go.Proofs.YtoodahceejdbcaaW.PrintWords Go.Proofs.YtoodahceejdbcaaW.PrintLast Go.Proofs.YtoodahceejdbcaaW.PrintMore
attribute [local go_sem] max2_int min2_int max_two min_two max_three min_three max_four min_four   -- for this text's walks alone
set_option linter.unusedVariables false
set_option linter.unusedSimpArgs false

attribute [local go_sem high] eqA67
/-! ### vec_Right: function 19 -/
theorem zq19_0 {p_ : Prop} (h_ : p_ := by rw [hg]; exact (below_size (by repeat (first | (with_reducible first | exact HB.out | apply below_alloc | apply pw_below_drewN | apply below_drew1) | exact HB.out)))) : p_ := h_
theorem zq19_1 {p_ : Prop} (h_ : p_ := by repeat (first | (with_reducible first | exact HB.out | apply below_alloc | apply pw_below_drewN | apply below_drew1 | refine below_set ?_ GE122.out) | exact HB.out)) : p_ := h_
theorem zq19_2 {p_ : Prop} (h_ : p_ := by (try simp only [List.map_toArray, List.map_cons, List.map_nil]); first | done | rfl | (simp only [List.length_drop, List.length_take]; rfl)) : p_ := h_
theorem zq19_3 {p_ : Prop} (h_ : p_ := by repeat (first | (with_reducible first | exact HB.out | apply below_alloc | apply pw_below_drewN | apply below_drew1) | exact HB.out)) : p_ := h_
theorem zq19_4 {p_ : Prop} (h_ : p_ := by (with_reducible repeat (first | refine blk_drewN ?_ _ | refine blk_drew ?_ | refine blk_alloc ?_ _)); exact BK122.out) : p_ := h_
theorem zq19_5 {p_ : Prop} (h_ : p_ := by first | (with_reducible assumption) | assumption) : p_ := h_
theorem zq19_6 {p_ : Prop} (h_ : p_ := by first | rfl | (simp; done) | (simp [*]; done)) : p_ := h_
def vec_Right.l0 : Nat → List (S67) → List (S67) → Int → Int → Option (Bool)
 | 0, _, _, _, _ => none
 | k + 1, x0, x5, x6, x7 => if x7 < x6 then (if 0 ≤ x7 then (if x7 < (x5.length : Int) then ((id_Right.f ((rd_T67 x5 x7).f0)).bind fun t123 => (if t123 = true then (if ((rd_T67 x5 x7).f1) < 1 then (some false) else (if ((rd_T67 x5 x7).f1) > 1048576 then (some false) else (if x7 > 0 then (if 0 ≤ (wrap64 (x7 - 1)) then (if (wrap64 (x7 - 1)) < (x0.length : Int) then ((vec_order.f ((rd_T67 x0 (wrap64 (x7 - 1))).f0) ((rd_T67 x0 (wrap64 (x7 - 1))).f1) ((rd_T67 x5 x7).f0) ((rd_T67 x5 x7).f1)).bind fun t125 => (if t125 ≥ 0 then (some false) else (vec_Right.l0 k x0 x5 x6 (wrap64 (x7 + 1))))) else (none)) else (none)) else (vec_Right.l0 k x0 x5 x6 (wrap64 (x7 + 1)))))) else (some false))) else (none)) else (none)) else (some true)
def vec_Right.f (k : Nat) (l0 : List (S67)) : Option (Bool) := vec_Right.l0 k l0 l0 (l0.length : Int) 0
theorem vec_Right.mono_l : ∀ k, (∀ y0 y1 y2 y3, LeO (vec_Right.l0 k y0 y1 y2 y3) (vec_Right.l0 (k + 1) y0 y1 y2 y3))
 | 0 => fun _ _ _ _ r h => by simp [vec_Right.l0] at h
 | k + 1 => by
  have ih0 := vec_Right.mono_l k
  ·intro y0 y1 y2 y3
   unfold vec_Right.l0
   repeat' first
   | (with_reducible exact ih0 _ _ _ _)
   | (with_reducible exact LeO.refl _)
   | (with_reducible exact LeO.none _)
   | (with_reducible refine LeO.ite ?_ ?_)
   | (with_reducible refine LeO.bind ?_ (fun _ => ?_))
   | exact ih0 _ _ _ _
   | exact LeO.none _
   | refine LeO.ite ?_ ?_
   | refine LeO.bind ?_ (fun _ => ?_)
theorem vec_Right.mono : ∀ a0 k, LeO (vec_Right.f k a0) (vec_Right.f (k + 1) a0) := by
 intro a0 k
 have ih0 := vec_Right.mono_l k
 unfold vec_Right.f
 repeat' first
   | (with_reducible exact ih0 _ _ _ _)
   | (with_reducible exact LeO.refl _)
   | (with_reducible exact LeO.none _)
   | (with_reducible refine LeO.ite ?_ ?_)
   | (with_reducible refine LeO.bind ?_ (fun _ => ?_))
   | exact ih0 _ _ _ _
   | exact LeO.none _
   | refine LeO.ite ?_ ?_
   | refine LeO.bind ?_ (fun _ => ?_)
def vec_Right.T4 : Bool × List (List Nat × List Nat) := (true, [([], []), ([0], [0]), ([1], [1]), ([2], [2]), ([3, 2], [3]), ([4], [4]), ([5, 4], [4, 5]), ([6, 4], [4, 6]), ([4, 7], [4, 7]), ([8, 4], [8]), ([9], [9]), ([10, 9], [9, 10]), ([11, 9], [9, 11]), ([9, 12], [9, 12]), ([13, 9], [13]), ([14], [14]), ([15, 14], [14, 15]), ([16, 14, 14], [14, 16]), ([17], [17]), ([17], [17]), ([19, 17], [17, 19]), ([18, 20, 17], [17, 18, 20]), ([21, 17], [17, 21]), ([17], [17]), ([22, 23, 17, 17], [17, 22, 23]), ([24, 17], [17, 24]), ([17, 25, 14], [14, 17, 25]), ([14, 26], [14, 26])])
def vec_Right.B4 : List Nat := [0, 1, 3, 7, 15, 31, 63, 127, 255, 511, 1023, 2047, 4095, 8191, 16383, 32767, 65535, 131071, 262143, 262143, 786431, 2097151, 4194303, 262143, 16777215, 33554431, 67108863, 134217727]
theorem vec_Right.tab4 : rtab .any (opsOf Try.f19 4) = vec_Right.T4 := by kernel_rfl
theorem vec_Right.bits4 : waitsOk vec_Right.T4.2 vec_Right.B4 = true := by kernel_rfl
set_option maxHeartbeats 8000000 in
set_option maxRecDepth 100000 in
theorem vec_Right.calls (k : Nat) (A0 : Option Addr) (c0 : Nat) (l0 : List (S67)) (r : Bool) (w : World) (hr0 : Kd.C k67 w A0 l0.length l0) (hc0 : l0.length ≤ c0) (h : vec_Right.f k l0 = some r) :
  Calls Try.prog 19 #[.slice A0 l0.length c0] w fun e w' => e = .returned (.bool r) ∧ Below w.heap.size w w' := by
 have hu67 := Try.underlying67
 have HR0 := Aside0.mk hr0
 have HC0 := Aside0.mk hc0
 clear hr0 hc0
 have HB := Aside0.mk (Below.refl w.heap.size w)
 have H : (vec_Right.l0 k l0 l0 (l0.length : Int) 0) = some r := h
 clear h
 have H' := Aside0.mk H
 clear H
 go_enter Try.func19, Try.ntmps19
 go_wp2
 go_loopg [7] k (fun kq v7 w' => ∃ (x7_1 : Int), v7 = .int .i64 x7_1 ∧ Aside0 (vec_Right.l0 kq l0 l0 (l0.length : Int) x7_1 = some r) ∧ Aside0 (kq ≤ k) ∧ Aside0 (Below w.heap.size w w'))
 case atStart => exact ⟨(0), zq19_6, H', ⟨Nat.le_refl _⟩, ⟨by repeat (first | (with_reducible first | exact HB.out | apply below_alloc | apply pw_below_drewN | apply below_drew1) | exact HB.out)⟩⟩
 case round =>
  clear H'
  try clear c1
  obtain ⟨x7_1, rfl, HA, HK1, HB⟩ := hrel
  cases gk with
  | zero => exact absurd HA.out (by simp [vec_Right.l0])
  | succ k1 =>
   have H := HA.out
   clear HA
   simp only [vec_Right.l0] at H
   by_cases c2 : x7_1 < (l0.length : Int)
   ·rw [if_pos c2] at H
    have c2b0 : decide (x7_1 < (l0.length : Int)) = true := decide_eq_true c2
    clear c2
    by_cases c3 : 0 ≤ x7_1
    ·rw [if_pos c3] at H
     have c3b0 : decide (0 ≤ x7_1) = true := decide_eq_true c3
     clear c3
     by_cases c4 : x7_1 < (l0.length : Int)
     ·rw [if_pos c4] at H
      have c4b0 : decide (x7_1 < (l0.length : Int)) = true := decide_eq_true c4
      clear c4
      replace H := Option.bind_eq_some_iff.mp H
      obtain ⟨t123, A50, H⟩ := H
      have A5 := Aside0.mk A50
      clear A50
      by_cases c6 : t123 = true
      ·subst c6
       have H1 : (if ((rd_T67 l0 x7_1).f1) < 1 then (some false) else (if ((rd_T67 l0 x7_1).f1) > 1048576 then (some false) else (if x7_1 > 0 then (if 0 ≤ (wrap64 (x7_1 - 1)) then (if (wrap64 (x7_1 - 1)) < (l0.length : Int) then ((vec_order.f ((rd_T67 l0 (wrap64 (x7_1 - 1))).f0) ((rd_T67 l0 (wrap64 (x7_1 - 1))).f1) ((rd_T67 l0 x7_1).f0) ((rd_T67 l0 x7_1).f1)).bind fun t125 => (if t125 ≥ 0 then (some false) else (vec_Right.l0 k1 l0 l0 (l0.length : Int) (wrap64 (x7_1 + 1))))) else (none)) else (none)) else (vec_Right.l0 k1 l0 l0 (l0.length : Int) (wrap64 (x7_1 + 1)))))) = some r := by rw [if_pos rfl] at H; exact H
       clear H
       have H := H1
       clear H1
       by_cases c7 : ((rd_T67 l0 x7_1).f1) < 1
       ·rw [if_pos c7] at H
        have c7b0 : decide (((rd_T67 l0 x7_1).f1) < 1) = true := decide_eq_true c7
        clear c7
        obtain rfl := Option.some.inj H
        have p121 : 0 ≤ (x7_1 : Int) := of_decide_eq_true zq19_5
        have q121 : x7_1 < (l0.length : Int) := of_decide_eq_true zq19_5
        obtain ⟨ad121, e121, hx121_0, hx121_1⟩ := at_T67 HR0.out x7_1 p121 q121
        cases e121
        replace hx121_0 := (HB.out.cell (World.block_lt_of_cell? w _ hx121_0)).trans hx121_0
        replace hx121_1 := (HB.out.cell (World.block_lt_of_cell? w _ hx121_1)).trans hx121_1
        replace p121 := eq_true p121
        replace q121 := eq_true q121
        try go_wp2_with (first | ((with_reducible refine gate_dst (N := 4) rfl ?_); refine box_event ?hg (N := 4) ?hd (cs := #[.string (⟨#[]⟩ : ByteArray), .int .i64 0]) (t := 67) ?hr ?_; (case hd => rfl); (case hg => rfl); (case hr => first | (go_simp; done) | (go_simp; rfl)); intro gb122 hg w8 hbox hb; have BK122 := Aside0.mk (hbox); have GW122 := Aside0.mk ((zq19_0 : w.heap.size ≤ gb122)); have GE122 := Aside0.mk ((zq19_0 : w.heap.size ≤ gb122)); replace HB := Aside0.mk (below_step zq19_3 hb); clear hb hbox hg; have hcz9_0 : w8.cell? ⟨gb122, 0, none⟩ = some (.string (⟨#[]⟩ : ByteArray)) := (blk_cell BK122.out 0).trans rfl; have hcz9_1 : w8.cell? ⟨gb122, 1, none⟩ = some (.int .i64 0) := (blk_cell BK122.out 1).trans rfl; have hfz9_0 := blk_frozen BK122.out 0; have hfz9_1 := blk_frozen BK122.out 1))
        have n0_ : Aside0 (((w8.setCell ⟨gb122, 0, none⟩ (.string ((rd_T67 l0 x7_1).f0))).setCell ⟨gb122, 1, none⟩ (.int .i64 ((rd_T67 l0 x7_1).f1))).heap[gb122]? = some (.cells #[.string ((rd_T67 l0 x7_1).f0), .int .i64 ((rd_T67 l0 x7_1).f1)] 67 (0, 0))) := ⟨by (with_reducible repeat (first | refine blk_drewN ?_ _ | refine blk_drew ?_ | refine blk_alloc ?_ _)); refine blk_put (cs := #[.string ((rd_T67 l0 x7_1).f0), .int .i64 0]) ?_ 1 _ rfl; (with_reducible repeat (first | refine blk_drewN ?_ _ | refine blk_drew ?_ | refine blk_alloc ?_ _)); refine blk_put (cs := #[.string (⟨#[]⟩ : ByteArray), .int .i64 0]) ?_ 0 _ rfl; (with_reducible repeat (first | refine blk_drewN ?_ _ | refine blk_drew ?_ | refine blk_alloc ?_ _)); exact BK122.out⟩
        have n1_ : Aside0 (Below w.heap.size w ((w8.setCell ⟨gb122, 0, none⟩ (.string ((rd_T67 l0 x7_1).f0))).setCell ⟨gb122, 1, none⟩ (.int .i64 ((rd_T67 l0 x7_1).f1)))) := ⟨by repeat (first | (with_reducible first | exact HB.out | apply below_alloc | apply pw_below_drewN | apply below_drew1 | refine below_set ?_ GE122.out) | exact HB.out)⟩
        (try clear BK122)
        (try clear HB)
        generalize ((w8.setCell ⟨gb122, 0, none⟩ (.string ((rd_T67 l0 x7_1).f0))).setCell ⟨gb122, 1, none⟩ (.int .i64 ((rd_T67 l0 x7_1).f1))) = w10 at n0_ n1_ ⊢
        have BK122 := n0_
        have HB := n1_
        clear n0_ n1_
        replace BK122 := Aside0.mk (blk_drew BK122.out)
        replace HB := Aside0.mk (below_drew1 HB.out)
        refine start_ (n := 28) (S := fun w' => w'.cell? ⟨gb122, 0, none⟩ = some (.string ((rd_T67 l0 x7_1).f0)) ∧ w'.cell? ⟨gb122, 1, none⟩ = some (.int .i64 ((rd_T67 l0 x7_1).f1))) (ds := []) #[false, false, false, false, false, false, false, false, false, false, false, false, false, false, false, false, false, false, false, false, false, false, false, false, false, false, false, false] (by kernel_rfl) rfl rfl ⟨(blk_cell BK122.out 0).trans rfl, (blk_cell BK122.out 1).trans rfl⟩ (fun hHeld => ?_); refine with_tabW vec_Right.tab4 vec_Right.bits4 (fun HT_ HW_ => ?_)
        generalize w10.drew = w11 at BK122 HB hHeld ⊢
        refine p_ 0 12 (mk_ 28 0x1) ?_
        refine t_ 1 13 (mk_ 28 0x3) hHeld ?_
        refine one_ (i := 2) (N := some 14) #[true, true, true, false, false, false, false, false, false, false, false, false, false, false, false, false, false, false, false, false, false, false, false, false, false, false, false, false] rfl rfl (one_of HT_.out (by kernel_rfl)) (by decide) (fun K hK => ?_)
        refine goes_ Try.func36 (by kernel_rfl) rfl #[.string ((rd_T67 l0 x7_1).f0)] (by rfl) rfl rfl zq19_2 ?_
        with_reducible refine (id_Right.calls ((rd_T67 l0 x7_1).f0) true _ A5.out).mono ?_
        rintro e w12 ⟨rfl, hb⟩
        refine ⟨_, rfl, ?_⟩
        replace BK122 := Aside0.mk (blk_below (g := gb122) (o := .cells #[.string ((rd_T67 l0 x7_1).f0), .int .i64 ((rd_T67 l0 x7_1).f1)] 67 (0, 0)) zq19_4 hb)
        replace HB := Aside0.mk (below_step zq19_1 hb)
        (try clear hb)
        (try clear hb2)
        (try clear hk)
        (try clear hi)
        refine hK.out _ _ ⟨(blk_cell BK122.out 0).trans rfl, (blk_cell BK122.out 1).trans rfl⟩ (fun hHeld => ?_)
        clear hK K
        refine norm_ (a' := ?_) ?_ ?_
        rotate_left
        ·show Act.put _ (some 14) _ = _
         simp only [Act.put, List.setIfInBounds_toArray, List.set_cons_zero, List.set_cons_succ, i64_w, i32_w]
         rfl
        refine p_ 3 15 (mk_ 28 0xf) ?_
        refine p_ 4 16 (mk_ 28 0x1f) ?_
        refine p_ 5 17 (mk_ 28 0x3f) ?_
        refine t_ 6 18 (mk_ 28 0x7f) hHeld ?_
        refine p_ 7 19 (mk_ 28 0xff) ?_
        refine p_ 8 20 (mk_ 28 0x1ff) ?_
        refine p_ 9 21 (mk_ 28 0x3ff) ?_
        refine u_ 10 22 (mk_ 28 0x7ff) ?_
        refine u_ 11 23 (mk_ 28 0xfff) ?_
        refine u_ 12 24 (mk_ 28 0x1fff) ?_
        refine p_ 13 25 (mk_ 28 0x3fff) ?_
        refine p_ 14 26 (mk_ 28 0x7fff) ?_
        refine u_ 15 27 (mk_ 28 0xffff) ?_
        refine u_ 16 28 (mk_ 28 0x1ffff) ?_
        refine u_ 17 29 (mk_ 28 0x3ffff) ?_
        refine u_ 18 30 (mk_ 28 0x7ffff) ?_
        refine u_ 19 31 (mk_ 28 0xfffff) ?_
        refine u_ 20 32 (mk_ 28 0x1fffff) ?_
        refine u_ 21 33 (mk_ 28 0x3fffff) ?_
        refine u_ 22 34 (mk_ 28 0x7fffff) ?_
        refine u_ 23 35 (mk_ 28 0xffffff) ?_
        refine u_ 24 36 (mk_ 28 0x1ffffff) ?_
        refine u_ 25 37 (mk_ 28 0x3ffffff) ?_
        refine u_ 26 38 (mk_ 28 0x7ffffff) ?_
        refine p_ 27 39 (mk_ 28 0xfffffff) ?_
        refine done_ (done_of HT_.out (by kernel_rfl)) ?_
        try go_wp2
        go_ret
        exact ⟨by first | rfl | (simp [errW_none, errW_some] <;> rfl) | (simp [*, errW_none, errW_some] <;> rfl), by repeat (first | (with_reducible first | exact HB.out | apply below_alloc | apply pw_below_drewN | apply below_drew1 | refine below_set ?_ GE122.out) | exact HB.out)⟩
       ·rw [if_neg c7] at H
        have c7b0 : decide (((rd_T67 l0 x7_1).f1) < 1) = false := decide_eq_false c7
        clear c7
        by_cases c13 : ((rd_T67 l0 x7_1).f1) > 1048576
        ·rw [if_pos c13] at H
         have c13b0 : decide (1048576 < ((rd_T67 l0 x7_1).f1)) = true := decide_eq_true c13
         clear c13
         obtain rfl := Option.some.inj H
         have p121 : 0 ≤ (x7_1 : Int) := of_decide_eq_true zq19_5
         have q121 : x7_1 < (l0.length : Int) := of_decide_eq_true zq19_5
         obtain ⟨ad121, e121, hx121_0, hx121_1⟩ := at_T67 HR0.out x7_1 p121 q121
         cases e121
         replace hx121_0 := (HB.out.cell (World.block_lt_of_cell? w _ hx121_0)).trans hx121_0
         replace hx121_1 := (HB.out.cell (World.block_lt_of_cell? w _ hx121_1)).trans hx121_1
         replace p121 := eq_true p121
         replace q121 := eq_true q121
         try go_wp2_with (first | ((with_reducible refine gate_dst (N := 4) rfl ?_); refine box_event ?hg (N := 4) ?hd (cs := #[.string (⟨#[]⟩ : ByteArray), .int .i64 0]) (t := 67) ?hr ?_; (case hd => rfl); (case hg => rfl); (case hr => first | (go_simp; done) | (go_simp; rfl)); intro gb122 hg w14 hbox hb; have BK122 := Aside0.mk (hbox); have GW122 := Aside0.mk ((zq19_0 : w.heap.size ≤ gb122)); have GE122 := Aside0.mk ((zq19_0 : w.heap.size ≤ gb122)); replace HB := Aside0.mk (below_step zq19_3 hb); clear hb hbox hg; have hcz15_0 : w14.cell? ⟨gb122, 0, none⟩ = some (.string (⟨#[]⟩ : ByteArray)) := (blk_cell BK122.out 0).trans rfl; have hcz15_1 : w14.cell? ⟨gb122, 1, none⟩ = some (.int .i64 0) := (blk_cell BK122.out 1).trans rfl; have hfz15_0 := blk_frozen BK122.out 0; have hfz15_1 := blk_frozen BK122.out 1))
         have n0_ : Aside0 (((w14.setCell ⟨gb122, 0, none⟩ (.string ((rd_T67 l0 x7_1).f0))).setCell ⟨gb122, 1, none⟩ (.int .i64 ((rd_T67 l0 x7_1).f1))).heap[gb122]? = some (.cells #[.string ((rd_T67 l0 x7_1).f0), .int .i64 ((rd_T67 l0 x7_1).f1)] 67 (0, 0))) := ⟨by (with_reducible repeat (first | refine blk_drewN ?_ _ | refine blk_drew ?_ | refine blk_alloc ?_ _)); refine blk_put (cs := #[.string ((rd_T67 l0 x7_1).f0), .int .i64 0]) ?_ 1 _ rfl; (with_reducible repeat (first | refine blk_drewN ?_ _ | refine blk_drew ?_ | refine blk_alloc ?_ _)); refine blk_put (cs := #[.string (⟨#[]⟩ : ByteArray), .int .i64 0]) ?_ 0 _ rfl; (with_reducible repeat (first | refine blk_drewN ?_ _ | refine blk_drew ?_ | refine blk_alloc ?_ _)); exact BK122.out⟩
         have n1_ : Aside0 (Below w.heap.size w ((w14.setCell ⟨gb122, 0, none⟩ (.string ((rd_T67 l0 x7_1).f0))).setCell ⟨gb122, 1, none⟩ (.int .i64 ((rd_T67 l0 x7_1).f1)))) := ⟨by repeat (first | (with_reducible first | exact HB.out | apply below_alloc | apply pw_below_drewN | apply below_drew1 | refine below_set ?_ GE122.out) | exact HB.out)⟩
         (try clear BK122)
         (try clear HB)
         generalize ((w14.setCell ⟨gb122, 0, none⟩ (.string ((rd_T67 l0 x7_1).f0))).setCell ⟨gb122, 1, none⟩ (.int .i64 ((rd_T67 l0 x7_1).f1))) = w16 at n0_ n1_ ⊢
         have BK122 := n0_
         have HB := n1_
         clear n0_ n1_
         replace BK122 := Aside0.mk (blk_drew BK122.out)
         replace HB := Aside0.mk (below_drew1 HB.out)
         refine start_ (n := 28) (S := fun w' => w'.cell? ⟨gb122, 0, none⟩ = some (.string ((rd_T67 l0 x7_1).f0)) ∧ w'.cell? ⟨gb122, 1, none⟩ = some (.int .i64 ((rd_T67 l0 x7_1).f1))) (ds := []) #[false, false, false, false, false, false, false, false, false, false, false, false, false, false, false, false, false, false, false, false, false, false, false, false, false, false, false, false] (by kernel_rfl) rfl rfl ⟨(blk_cell BK122.out 0).trans rfl, (blk_cell BK122.out 1).trans rfl⟩ (fun hHeld => ?_); refine with_tabW vec_Right.tab4 vec_Right.bits4 (fun HT_ HW_ => ?_)
         generalize w16.drew = w17 at BK122 HB hHeld ⊢
         refine p_ 0 12 (mk_ 28 0x1) ?_
         refine t_ 1 13 (mk_ 28 0x3) hHeld ?_
         refine one_ (i := 2) (N := some 14) #[true, true, true, false, false, false, false, false, false, false, false, false, false, false, false, false, false, false, false, false, false, false, false, false, false, false, false, false] rfl rfl (one_of HT_.out (by kernel_rfl)) (by decide) (fun K hK => ?_)
         refine goes_ Try.func36 (by kernel_rfl) rfl #[.string ((rd_T67 l0 x7_1).f0)] (by rfl) rfl rfl zq19_2 ?_
         with_reducible refine (id_Right.calls ((rd_T67 l0 x7_1).f0) true _ A5.out).mono ?_
         rintro e w18 ⟨rfl, hb⟩
         refine ⟨_, rfl, ?_⟩
         replace BK122 := Aside0.mk (blk_below (g := gb122) (o := .cells #[.string ((rd_T67 l0 x7_1).f0), .int .i64 ((rd_T67 l0 x7_1).f1)] 67 (0, 0)) zq19_4 hb)
         replace HB := Aside0.mk (below_step zq19_1 hb)
         (try clear hb)
         (try clear hb2)
         (try clear hk)
         (try clear hi)
         refine hK.out _ _ ⟨(blk_cell BK122.out 0).trans rfl, (blk_cell BK122.out 1).trans rfl⟩ (fun hHeld => ?_)
         clear hK K
         refine norm_ (a' := ?_) ?_ ?_
         rotate_left
         ·show Act.put _ (some 14) _ = _
          simp only [Act.put, List.setIfInBounds_toArray, List.set_cons_zero, List.set_cons_succ, i64_w, i32_w]
          rfl
         refine p_ 3 15 (mk_ 28 0xf) ?_
         refine p_ 4 16 (mk_ 28 0x1f) ?_
         refine p_ 5 17 (mk_ 28 0x3f) ?_
         refine t_ 6 18 (mk_ 28 0x7f) hHeld ?_
         refine p_ 7 19 (mk_ 28 0xff) ?_
         refine p_ 8 20 (mk_ 28 0x1ff) ?_
         refine p_ 9 21 (mk_ 28 0x3ff) ?_
         refine p_ 10 22 (mk_ 28 0x7ff) ?_
         refine t_ 11 23 (mk_ 28 0xfff) hHeld ?_
         refine p_ 12 24 (mk_ 28 0x1fff) ?_
         refine p_ 13 25 (mk_ 28 0x3fff) ?_
         refine p_ 14 26 (mk_ 28 0x7fff) ?_
         refine u_ 15 27 (mk_ 28 0xffff) ?_
         refine u_ 16 28 (mk_ 28 0x1ffff) ?_
         refine u_ 17 29 (mk_ 28 0x3ffff) ?_
         refine u_ 18 30 (mk_ 28 0x7ffff) ?_
         refine u_ 19 31 (mk_ 28 0xfffff) ?_
         refine u_ 20 32 (mk_ 28 0x1fffff) ?_
         refine u_ 21 33 (mk_ 28 0x3fffff) ?_
         refine u_ 22 34 (mk_ 28 0x7fffff) ?_
         refine u_ 23 35 (mk_ 28 0xffffff) ?_
         refine u_ 24 36 (mk_ 28 0x1ffffff) ?_
         refine u_ 25 37 (mk_ 28 0x3ffffff) ?_
         refine u_ 26 38 (mk_ 28 0x7ffffff) ?_
         refine p_ 27 39 (mk_ 28 0xfffffff) ?_
         refine done_ (done_of HT_.out (by kernel_rfl)) ?_
         try go_wp2
         go_ret
         exact ⟨by first | rfl | (simp [errW_none, errW_some] <;> rfl) | (simp [*, errW_none, errW_some] <;> rfl), by repeat (first | (with_reducible first | exact HB.out | apply below_alloc | apply pw_below_drewN | apply below_drew1 | refine below_set ?_ GE122.out) | exact HB.out)⟩
        ·rw [if_neg c13] at H
         have c13b0 : decide (1048576 < ((rd_T67 l0 x7_1).f1)) = false := decide_eq_false c13
         clear c13
         by_cases c19 : x7_1 > 0
         ·rw [if_pos c19] at H
          have c19b0 : decide (0 < x7_1) = true := decide_eq_true c19
          clear c19
          obtain ⟨ji20, hji20⟩ : ∃ j_ : Int, (wrap64 (x7_1 - 1)) = j_ := ⟨_, rfl⟩
          replace H : (if 0 ≤ (ji20) then (if (ji20) < (l0.length : Int) then ((vec_order.f ((rd_T67 l0 (ji20)).f0) ((rd_T67 l0 (ji20)).f1) ((rd_T67 l0 x7_1).f0) ((rd_T67 l0 x7_1).f1)).bind fun t125 => (if t125 ≥ 0 then (some false) else (vec_Right.l0 k1 l0 l0 (l0.length : Int) (wrap64 (x7_1 + 1))))) else (none)) else (none)) = some r := by first | (rw [hji20] at H; exact H) | (simp only [hji20] at H ⊢; exact H)
          (try rw [hji20] at A5)
          have hji20w : (IntKind.i64.wrap (x7_1 - 1)) = ji20 := (i64_w _).trans hji20
          by_cases c21 : 0 ≤ (ji20)
          ·rw [if_pos c21] at H
           have c21b0 : decide (0 ≤ (ji20)) = true := decide_eq_true c21
           clear c21
           by_cases c22 : (ji20) < (l0.length : Int)
           ·rw [if_pos c22] at H
            have c22b0 : decide ((ji20) < (l0.length : Int)) = true := decide_eq_true c22
            clear c22
            replace H := Option.bind_eq_some_iff.mp H
            obtain ⟨t125, A230, H⟩ := H
            have A23 := Aside0.mk A230
            clear A230
            by_cases c24 : t125 ≥ 0
            ·rw [if_pos c24] at H
             have c24b0 : decide (0 ≤ t125) = true := decide_eq_true c24
             clear c24
             obtain rfl := Option.some.inj H
             have p121 : 0 ≤ (x7_1 : Int) := of_decide_eq_true zq19_5
             have q121 : x7_1 < (l0.length : Int) := of_decide_eq_true zq19_5
             obtain ⟨ad121, e121, hx121_0, hx121_1⟩ := at_T67 HR0.out x7_1 p121 q121
             cases e121
             replace hx121_0 := (HB.out.cell (World.block_lt_of_cell? w _ hx121_0)).trans hx121_0
             replace hx121_1 := (HB.out.cell (World.block_lt_of_cell? w _ hx121_1)).trans hx121_1
             replace p121 := eq_true p121
             replace q121 := eq_true q121
             try go_wp2_with (first | ((with_reducible refine gate_dst (N := 4) rfl ?_); refine box_event ?hg (N := 4) ?hd (cs := #[.string (⟨#[]⟩ : ByteArray), .int .i64 0]) (t := 67) ?hr ?_; (case hd => rfl); (case hg => rfl); (case hr => first | (go_simp; done) | (go_simp; rfl)); intro gb122 hg w25 hbox hb; have BK122 := Aside0.mk (hbox); have GW122 := Aside0.mk ((zq19_0 : w.heap.size ≤ gb122)); have GE122 := Aside0.mk ((zq19_0 : w.heap.size ≤ gb122)); replace HB := Aside0.mk (below_step zq19_3 hb); clear hb hbox hg; have hcz26_0 : w25.cell? ⟨gb122, 0, none⟩ = some (.string (⟨#[]⟩ : ByteArray)) := (blk_cell BK122.out 0).trans rfl; have hcz26_1 : w25.cell? ⟨gb122, 1, none⟩ = some (.int .i64 0) := (blk_cell BK122.out 1).trans rfl; have hfz26_0 := blk_frozen BK122.out 0; have hfz26_1 := blk_frozen BK122.out 1))
             have n0_ : Aside0 (((w25.setCell ⟨gb122, 0, none⟩ (.string ((rd_T67 l0 x7_1).f0))).setCell ⟨gb122, 1, none⟩ (.int .i64 ((rd_T67 l0 x7_1).f1))).heap[gb122]? = some (.cells #[.string ((rd_T67 l0 x7_1).f0), .int .i64 ((rd_T67 l0 x7_1).f1)] 67 (0, 0))) := ⟨by (with_reducible repeat (first | refine blk_drewN ?_ _ | refine blk_drew ?_ | refine blk_alloc ?_ _)); refine blk_put (cs := #[.string ((rd_T67 l0 x7_1).f0), .int .i64 0]) ?_ 1 _ rfl; (with_reducible repeat (first | refine blk_drewN ?_ _ | refine blk_drew ?_ | refine blk_alloc ?_ _)); refine blk_put (cs := #[.string (⟨#[]⟩ : ByteArray), .int .i64 0]) ?_ 0 _ rfl; (with_reducible repeat (first | refine blk_drewN ?_ _ | refine blk_drew ?_ | refine blk_alloc ?_ _)); exact BK122.out⟩
             have n1_ : Aside0 (Below w.heap.size w ((w25.setCell ⟨gb122, 0, none⟩ (.string ((rd_T67 l0 x7_1).f0))).setCell ⟨gb122, 1, none⟩ (.int .i64 ((rd_T67 l0 x7_1).f1)))) := ⟨by repeat (first | (with_reducible first | exact HB.out | apply below_alloc | apply pw_below_drewN | apply below_drew1 | refine below_set ?_ GE122.out) | exact HB.out)⟩
             (try clear BK122)
             (try clear HB)
             generalize ((w25.setCell ⟨gb122, 0, none⟩ (.string ((rd_T67 l0 x7_1).f0))).setCell ⟨gb122, 1, none⟩ (.int .i64 ((rd_T67 l0 x7_1).f1))) = w27 at n0_ n1_ ⊢
             have BK122 := n0_
             have HB := n1_
             clear n0_ n1_
             replace BK122 := Aside0.mk (blk_drew BK122.out)
             replace HB := Aside0.mk (below_drew1 HB.out)
             have p124 : 0 ≤ ((ji20) : Int) := of_decide_eq_true zq19_5
             have q124 : (ji20) < (l0.length : Int) := of_decide_eq_true zq19_5
             obtain ⟨ad124, e124, hx124_0, hx124_1⟩ := at_T67 HR0.out (ji20) p124 q124
             have hw124_1 := hx124_1
             have hw124_0 := hx124_0
             obtain rfl : ad121 = ad124 := (by injection e124)
             replace hx124_0 := (HB.out.cell (World.block_lt_of_cell? w _ hx124_0)).trans hx124_0
             replace hx124_1 := (HB.out.cell (World.block_lt_of_cell? w _ hx124_1)).trans hx124_1
             replace p124 := eq_true p124
             replace q124 := eq_true q124
             refine start_ (n := 28) (S := fun w' => w'.cell? ⟨gb122, 0, none⟩ = some (.string ((rd_T67 l0 x7_1).f0)) ∧ w'.cell? ⟨gb122, 1, none⟩ = some (.int .i64 ((rd_T67 l0 x7_1).f1)) ∧ w'.cell? (ad121.add (((ji20)).toNat * 2)) = some (.string ((rd_T67 l0 (ji20)).f0)) ∧ w'.cell? ⟨(ad121.add (((ji20)).toNat * 2)).block, (ad121.add (((ji20)).toNat * 2)).off + 1, none⟩ = some (.int .i64 ((rd_T67 l0 (ji20)).f1))) (ds := []) #[false, false, false, false, false, false, false, false, false, false, false, false, false, false, false, false, false, false, false, false, false, false, false, false, false, false, false, false] (by kernel_rfl) rfl rfl ⟨(blk_cell BK122.out 0).trans rfl, (blk_cell BK122.out 1).trans rfl, ((HB.out.cell (World.block_lt_of_cell? w _ hw124_0)).trans hw124_0), ((HB.out.cell (World.block_lt_of_cell? w _ hw124_1)).trans hw124_1)⟩ (fun hHeld => ?_); refine with_tabW vec_Right.tab4 vec_Right.bits4 (fun HT_ HW_ => ?_)
             generalize w27.drew = w28 at BK122 HB hx124_0 hx124_1 hHeld ⊢
             refine p_ 0 12 (mk_ 28 0x1) ?_
             refine t_ 1 13 (mk_ 28 0x3) hHeld ?_
             refine one_ (i := 2) (N := some 14) #[true, true, true, false, false, false, false, false, false, false, false, false, false, false, false, false, false, false, false, false, false, false, false, false, false, false, false, false] rfl rfl (one_of HT_.out (by kernel_rfl)) (by decide) (fun K hK => ?_)
             refine goes_ Try.func36 (by kernel_rfl) rfl #[.string ((rd_T67 l0 x7_1).f0)] (by rfl) rfl rfl zq19_2 ?_
             with_reducible refine (id_Right.calls ((rd_T67 l0 x7_1).f0) true _ A5.out).mono ?_
             rintro e w29 ⟨rfl, hb⟩
             refine ⟨_, rfl, ?_⟩
             replace BK122 := Aside0.mk (blk_below (g := gb122) (o := .cells #[.string ((rd_T67 l0 x7_1).f0), .int .i64 ((rd_T67 l0 x7_1).f1)] 67 (0, 0)) zq19_4 hb)
             replace HB := Aside0.mk (below_step zq19_1 hb)
             (try clear hb)
             (try clear hb2)
             (try clear hk)
             (try clear hi)
             refine hK.out _ _ ⟨(blk_cell BK122.out 0).trans rfl, (blk_cell BK122.out 1).trans rfl, ((HB.out.cell (World.block_lt_of_cell? w _ hw124_0)).trans hw124_0), ((HB.out.cell (World.block_lt_of_cell? w _ hw124_1)).trans hw124_1)⟩ (fun hHeld => ?_)
             clear hK K
             refine norm_ (a' := ?_) ?_ ?_
             rotate_left
             ·show Act.put _ (some 14) _ = _
              simp only [Act.put, List.setIfInBounds_toArray, List.set_cons_zero, List.set_cons_succ, i64_w, i32_w]
              rfl
             refine p_ 3 15 (mk_ 28 0xf) ?_
             refine p_ 4 16 (mk_ 28 0x1f) ?_
             refine p_ 5 17 (mk_ 28 0x3f) ?_
             refine t_ 6 18 (mk_ 28 0x7f) hHeld ?_
             refine p_ 7 19 (mk_ 28 0xff) ?_
             refine p_ 8 20 (mk_ 28 0x1ff) ?_
             refine p_ 9 21 (mk_ 28 0x3ff) ?_
             refine p_ 10 22 (mk_ 28 0x7ff) ?_
             refine t_ 11 23 (mk_ 28 0xfff) hHeld ?_
             refine p_ 12 24 (mk_ 28 0x1fff) ?_
             refine p_ 13 25 (mk_ 28 0x3fff) ?_
             refine p_ 14 26 (mk_ 28 0x7fff) ?_
             refine p_ 15 27 (mk_ 28 0xffff) ?_
             refine p_ 16 28 (mk_ 28 0x1ffff) ?_
             refine p_ 17 29 (mk_ 28 0x3ffff) ?_
             refine p_ 18 30 (mk_ 28 0x7ffff) ?_
             refine p_ 19 31 (mk_ 28 0xfffff) ?_
             refine p_ 20 32 (mk_ 28 0x1fffff) ?_
             refine p_ 21 33 (mk_ 28 0x3fffff) ?_
             refine t_ 22 34 (mk_ 28 0x7fffff) hHeld ?_
             refine t_ 23 35 (mk_ 28 0xffffff) hHeld ?_
             refine one_ (i := 24) (N := some 36) #[true, true, true, true, true, true, true, true, true, true, true, true, true, true, true, true, true, true, true, true, true, true, true, true, true, false, false, false] rfl rfl (one_of HT_.out (by kernel_rfl)) (by decide) (fun K hK => ?_)
             refine goes_ Try.func45 (by kernel_rfl) rfl #[.agg #[.string ((rd_T67 l0 (ji20)).f0), .int .i64 ((rd_T67 l0 (ji20)).f1)], .agg #[.string ((rd_T67 l0 x7_1).f0), .int .i64 ((rd_T67 l0 x7_1).f1)]] (by rfl) rfl rfl (by (try simp only [List.map_toArray, List.map_cons, List.map_nil]); first | done | (simp only [hji20]; rfl) | rfl | (simp only [List.length_drop, List.length_take]; rfl)) ?_
             with_reducible refine (vec_order.calls ((rd_T67 l0 (ji20)).f0) ((rd_T67 l0 (ji20)).f1) ((rd_T67 l0 x7_1).f0) ((rd_T67 l0 x7_1).f1) t125 _ A23.out).mono ?_
             rintro e w30 ⟨rfl, hb⟩
             refine ⟨_, rfl, ?_⟩
             replace BK122 := Aside0.mk (blk_below (g := gb122) (o := .cells #[.string ((rd_T67 l0 x7_1).f0), .int .i64 ((rd_T67 l0 x7_1).f1)] 67 (0, 0)) zq19_4 hb)
             replace HB := Aside0.mk (below_step zq19_1 hb)
             (try clear hb)
             (try clear hb2)
             (try clear hk)
             (try clear hi)
             refine hK.out _ _ ⟨(blk_cell BK122.out 0).trans rfl, (blk_cell BK122.out 1).trans rfl, ((HB.out.cell (World.block_lt_of_cell? w _ hw124_0)).trans hw124_0), ((HB.out.cell (World.block_lt_of_cell? w _ hw124_1)).trans hw124_1)⟩ (fun hHeld => ?_)
             clear hK K
             refine norm_ (a' := ?_) ?_ ?_
             rotate_left
             ·show Act.put _ (some 36) _ = _
              simp only [Act.put, List.setIfInBounds_toArray, List.set_cons_zero, List.set_cons_succ, i64_w, i32_w]
              rfl
             refine p_ 25 37 (mk_ 28 0x3ffffff) ?_
             refine p_ 26 38 (mk_ 28 0x7ffffff) ?_
             refine p_ 27 39 (mk_ 28 0xfffffff) ?_
             refine done_ (done_of HT_.out (by kernel_rfl)) ?_
             try go_wp2
             go_ret
             exact ⟨by first | rfl | (simp [errW_none, errW_some] <;> rfl) | (simp only [← hji20]; first | rfl | (simp [errW_none, errW_some] <;> rfl)) | (simp [*, errW_none, errW_some] <;> rfl), by repeat (first | (with_reducible first | exact HB.out | apply below_alloc | apply pw_below_drewN | apply below_drew1 | refine below_set ?_ GE122.out) | exact HB.out)⟩
            ·rw [if_neg c24] at H
             have c24b0 : decide (0 ≤ t125) = false := decide_eq_false c24
             clear c24
             have H' := Aside0.mk H
             clear H
             have p121 : 0 ≤ (x7_1 : Int) := of_decide_eq_true zq19_5
             have q121 : x7_1 < (l0.length : Int) := of_decide_eq_true zq19_5
             obtain ⟨ad121, e121, hx121_0, hx121_1⟩ := at_T67 HR0.out x7_1 p121 q121
             cases e121
             replace hx121_0 := (HB.out.cell (World.block_lt_of_cell? w _ hx121_0)).trans hx121_0
             replace hx121_1 := (HB.out.cell (World.block_lt_of_cell? w _ hx121_1)).trans hx121_1
             replace p121 := eq_true p121
             replace q121 := eq_true q121
             try go_wp2_with (first | ((with_reducible refine gate_dst (N := 4) rfl ?_); refine box_event ?hg (N := 4) ?hd (cs := #[.string (⟨#[]⟩ : ByteArray), .int .i64 0]) (t := 67) ?hr ?_; (case hd => rfl); (case hg => rfl); (case hr => first | (go_simp; done) | (go_simp; rfl)); intro gb122 hg w31 hbox hb; have BK122 := Aside0.mk (hbox); have GW122 := Aside0.mk ((zq19_0 : w.heap.size ≤ gb122)); have GE122 := Aside0.mk ((zq19_0 : w.heap.size ≤ gb122)); replace HB := Aside0.mk (below_step zq19_3 hb); clear hb hbox hg; have hcz32_0 : w31.cell? ⟨gb122, 0, none⟩ = some (.string (⟨#[]⟩ : ByteArray)) := (blk_cell BK122.out 0).trans rfl; have hcz32_1 : w31.cell? ⟨gb122, 1, none⟩ = some (.int .i64 0) := (blk_cell BK122.out 1).trans rfl; have hfz32_0 := blk_frozen BK122.out 0; have hfz32_1 := blk_frozen BK122.out 1))
             have n0_ : Aside0 (((w31.setCell ⟨gb122, 0, none⟩ (.string ((rd_T67 l0 x7_1).f0))).setCell ⟨gb122, 1, none⟩ (.int .i64 ((rd_T67 l0 x7_1).f1))).heap[gb122]? = some (.cells #[.string ((rd_T67 l0 x7_1).f0), .int .i64 ((rd_T67 l0 x7_1).f1)] 67 (0, 0))) := ⟨by (with_reducible repeat (first | refine blk_drewN ?_ _ | refine blk_drew ?_ | refine blk_alloc ?_ _)); refine blk_put (cs := #[.string ((rd_T67 l0 x7_1).f0), .int .i64 0]) ?_ 1 _ rfl; (with_reducible repeat (first | refine blk_drewN ?_ _ | refine blk_drew ?_ | refine blk_alloc ?_ _)); refine blk_put (cs := #[.string (⟨#[]⟩ : ByteArray), .int .i64 0]) ?_ 0 _ rfl; (with_reducible repeat (first | refine blk_drewN ?_ _ | refine blk_drew ?_ | refine blk_alloc ?_ _)); exact BK122.out⟩
             have n1_ : Aside0 (Below w.heap.size w ((w31.setCell ⟨gb122, 0, none⟩ (.string ((rd_T67 l0 x7_1).f0))).setCell ⟨gb122, 1, none⟩ (.int .i64 ((rd_T67 l0 x7_1).f1)))) := ⟨by repeat (first | (with_reducible first | exact HB.out | apply below_alloc | apply pw_below_drewN | apply below_drew1 | refine below_set ?_ GE122.out) | exact HB.out)⟩
             (try clear BK122)
             (try clear HB)
             generalize ((w31.setCell ⟨gb122, 0, none⟩ (.string ((rd_T67 l0 x7_1).f0))).setCell ⟨gb122, 1, none⟩ (.int .i64 ((rd_T67 l0 x7_1).f1))) = w33 at n0_ n1_ ⊢
             have BK122 := n0_
             have HB := n1_
             clear n0_ n1_
             replace BK122 := Aside0.mk (blk_drew BK122.out)
             replace HB := Aside0.mk (below_drew1 HB.out)
             have p124 : 0 ≤ ((ji20) : Int) := of_decide_eq_true zq19_5
             have q124 : (ji20) < (l0.length : Int) := of_decide_eq_true zq19_5
             obtain ⟨ad124, e124, hx124_0, hx124_1⟩ := at_T67 HR0.out (ji20) p124 q124
             have hw124_1 := hx124_1
             have hw124_0 := hx124_0
             obtain rfl : ad121 = ad124 := (by injection e124)
             replace hx124_0 := (HB.out.cell (World.block_lt_of_cell? w _ hx124_0)).trans hx124_0
             replace hx124_1 := (HB.out.cell (World.block_lt_of_cell? w _ hx124_1)).trans hx124_1
             replace p124 := eq_true p124
             replace q124 := eq_true q124
             refine start_ (n := 28) (S := fun w' => w'.cell? ⟨gb122, 0, none⟩ = some (.string ((rd_T67 l0 x7_1).f0)) ∧ w'.cell? ⟨gb122, 1, none⟩ = some (.int .i64 ((rd_T67 l0 x7_1).f1)) ∧ w'.cell? (ad121.add (((ji20)).toNat * 2)) = some (.string ((rd_T67 l0 (ji20)).f0)) ∧ w'.cell? ⟨(ad121.add (((ji20)).toNat * 2)).block, (ad121.add (((ji20)).toNat * 2)).off + 1, none⟩ = some (.int .i64 ((rd_T67 l0 (ji20)).f1))) (ds := []) #[false, false, false, false, false, false, false, false, false, false, false, false, false, false, false, false, false, false, false, false, false, false, false, false, false, false, false, false] (by kernel_rfl) rfl rfl ⟨(blk_cell BK122.out 0).trans rfl, (blk_cell BK122.out 1).trans rfl, ((HB.out.cell (World.block_lt_of_cell? w _ hw124_0)).trans hw124_0), ((HB.out.cell (World.block_lt_of_cell? w _ hw124_1)).trans hw124_1)⟩ (fun hHeld => ?_); refine with_tabW vec_Right.tab4 vec_Right.bits4 (fun HT_ HW_ => ?_)
             generalize w33.drew = w34 at BK122 HB hx124_0 hx124_1 hHeld ⊢
             refine p_ 0 12 (mk_ 28 0x1) ?_
             refine t_ 1 13 (mk_ 28 0x3) hHeld ?_
             refine one_ (i := 2) (N := some 14) #[true, true, true, false, false, false, false, false, false, false, false, false, false, false, false, false, false, false, false, false, false, false, false, false, false, false, false, false] rfl rfl (one_of HT_.out (by kernel_rfl)) (by decide) (fun K hK => ?_)
             refine goes_ Try.func36 (by kernel_rfl) rfl #[.string ((rd_T67 l0 x7_1).f0)] (by rfl) rfl rfl zq19_2 ?_
             with_reducible refine (id_Right.calls ((rd_T67 l0 x7_1).f0) true _ A5.out).mono ?_
             rintro e w35 ⟨rfl, hb⟩
             refine ⟨_, rfl, ?_⟩
             replace BK122 := Aside0.mk (blk_below (g := gb122) (o := .cells #[.string ((rd_T67 l0 x7_1).f0), .int .i64 ((rd_T67 l0 x7_1).f1)] 67 (0, 0)) zq19_4 hb)
             replace HB := Aside0.mk (below_step zq19_1 hb)
             (try clear hb)
             (try clear hb2)
             (try clear hk)
             (try clear hi)
             refine hK.out _ _ ⟨(blk_cell BK122.out 0).trans rfl, (blk_cell BK122.out 1).trans rfl, ((HB.out.cell (World.block_lt_of_cell? w _ hw124_0)).trans hw124_0), ((HB.out.cell (World.block_lt_of_cell? w _ hw124_1)).trans hw124_1)⟩ (fun hHeld => ?_)
             clear hK K
             refine norm_ (a' := ?_) ?_ ?_
             rotate_left
             ·show Act.put _ (some 14) _ = _
              simp only [Act.put, List.setIfInBounds_toArray, List.set_cons_zero, List.set_cons_succ, i64_w, i32_w]
              rfl
             refine p_ 3 15 (mk_ 28 0xf) ?_
             refine p_ 4 16 (mk_ 28 0x1f) ?_
             refine p_ 5 17 (mk_ 28 0x3f) ?_
             refine t_ 6 18 (mk_ 28 0x7f) hHeld ?_
             refine p_ 7 19 (mk_ 28 0xff) ?_
             refine p_ 8 20 (mk_ 28 0x1ff) ?_
             refine p_ 9 21 (mk_ 28 0x3ff) ?_
             refine p_ 10 22 (mk_ 28 0x7ff) ?_
             refine t_ 11 23 (mk_ 28 0xfff) hHeld ?_
             refine p_ 12 24 (mk_ 28 0x1fff) ?_
             refine p_ 13 25 (mk_ 28 0x3fff) ?_
             refine p_ 14 26 (mk_ 28 0x7fff) ?_
             refine p_ 15 27 (mk_ 28 0xffff) ?_
             refine p_ 16 28 (mk_ 28 0x1ffff) ?_
             refine p_ 17 29 (mk_ 28 0x3ffff) ?_
             refine p_ 18 30 (mk_ 28 0x7ffff) ?_
             refine p_ 19 31 (mk_ 28 0xfffff) ?_
             refine p_ 20 32 (mk_ 28 0x1fffff) ?_
             refine p_ 21 33 (mk_ 28 0x3fffff) ?_
             refine t_ 22 34 (mk_ 28 0x7fffff) hHeld ?_
             refine t_ 23 35 (mk_ 28 0xffffff) hHeld ?_
             refine one_ (i := 24) (N := some 36) #[true, true, true, true, true, true, true, true, true, true, true, true, true, true, true, true, true, true, true, true, true, true, true, true, true, false, false, false] rfl rfl (one_of HT_.out (by kernel_rfl)) (by decide) (fun K hK => ?_)
             refine goes_ Try.func45 (by kernel_rfl) rfl #[.agg #[.string ((rd_T67 l0 (ji20)).f0), .int .i64 ((rd_T67 l0 (ji20)).f1)], .agg #[.string ((rd_T67 l0 x7_1).f0), .int .i64 ((rd_T67 l0 x7_1).f1)]] (by rfl) rfl rfl (by (try simp only [List.map_toArray, List.map_cons, List.map_nil]); first | done | (simp only [hji20]; rfl) | rfl | (simp only [List.length_drop, List.length_take]; rfl)) ?_
             with_reducible refine (vec_order.calls ((rd_T67 l0 (ji20)).f0) ((rd_T67 l0 (ji20)).f1) ((rd_T67 l0 x7_1).f0) ((rd_T67 l0 x7_1).f1) t125 _ A23.out).mono ?_
             rintro e w36 ⟨rfl, hb⟩
             refine ⟨_, rfl, ?_⟩
             replace BK122 := Aside0.mk (blk_below (g := gb122) (o := .cells #[.string ((rd_T67 l0 x7_1).f0), .int .i64 ((rd_T67 l0 x7_1).f1)] 67 (0, 0)) zq19_4 hb)
             replace HB := Aside0.mk (below_step zq19_1 hb)
             (try clear hb)
             (try clear hb2)
             (try clear hk)
             (try clear hi)
             refine hK.out _ _ ⟨(blk_cell BK122.out 0).trans rfl, (blk_cell BK122.out 1).trans rfl, ((HB.out.cell (World.block_lt_of_cell? w _ hw124_0)).trans hw124_0), ((HB.out.cell (World.block_lt_of_cell? w _ hw124_1)).trans hw124_1)⟩ (fun hHeld => ?_)
             clear hK K
             refine norm_ (a' := ?_) ?_ ?_
             rotate_left
             ·show Act.put _ (some 36) _ = _
              simp only [Act.put, List.setIfInBounds_toArray, List.set_cons_zero, List.set_cons_succ, i64_w, i32_w]
              rfl
             refine p_ 25 37 (mk_ 28 0x3ffffff) ?_
             refine p_ 26 38 (mk_ 28 0x7ffffff) ?_
             refine p_ 27 39 (mk_ 28 0xfffffff) ?_
             refine done_ (done_of HT_.out (by kernel_rfl)) ?_
             try go_wp2
             go_roundg k1
             case measure => have := HK1.out; omega
             case rel => exact ⟨(wrap64 (x7_1 + 1)), zq19_6, H', ⟨by have := HK1.out; omega⟩, ⟨by repeat (first | (with_reducible first | exact HB.out | apply below_alloc | apply pw_below_drewN | apply below_drew1 | refine below_set ?_ GE122.out) | exact HB.out)⟩⟩
           ·rw [if_neg c22] at H
            exact absurd H (by simp)
          ·rw [if_neg c21] at H
           exact absurd H (by simp)
         ·rw [if_neg c19] at H
          have c19b0 : decide (0 < x7_1) = false := decide_eq_false c19
          clear c19
          have H' := Aside0.mk H
          clear H
          have p121 : 0 ≤ (x7_1 : Int) := of_decide_eq_true zq19_5
          have q121 : x7_1 < (l0.length : Int) := of_decide_eq_true zq19_5
          obtain ⟨ad121, e121, hx121_0, hx121_1⟩ := at_T67 HR0.out x7_1 p121 q121
          cases e121
          replace hx121_0 := (HB.out.cell (World.block_lt_of_cell? w _ hx121_0)).trans hx121_0
          replace hx121_1 := (HB.out.cell (World.block_lt_of_cell? w _ hx121_1)).trans hx121_1
          replace p121 := eq_true p121
          replace q121 := eq_true q121
          try go_wp2_with (first | ((with_reducible refine gate_dst (N := 4) rfl ?_); refine box_event ?hg (N := 4) ?hd (cs := #[.string (⟨#[]⟩ : ByteArray), .int .i64 0]) (t := 67) ?hr ?_; (case hd => rfl); (case hg => rfl); (case hr => first | (go_simp; done) | (go_simp; rfl)); intro gb122 hg w37 hbox hb; have BK122 := Aside0.mk (hbox); have GW122 := Aside0.mk ((zq19_0 : w.heap.size ≤ gb122)); have GE122 := Aside0.mk ((zq19_0 : w.heap.size ≤ gb122)); replace HB := Aside0.mk (below_step zq19_3 hb); clear hb hbox hg; have hcz38_0 : w37.cell? ⟨gb122, 0, none⟩ = some (.string (⟨#[]⟩ : ByteArray)) := (blk_cell BK122.out 0).trans rfl; have hcz38_1 : w37.cell? ⟨gb122, 1, none⟩ = some (.int .i64 0) := (blk_cell BK122.out 1).trans rfl; have hfz38_0 := blk_frozen BK122.out 0; have hfz38_1 := blk_frozen BK122.out 1))
          have n0_ : Aside0 (((w37.setCell ⟨gb122, 0, none⟩ (.string ((rd_T67 l0 x7_1).f0))).setCell ⟨gb122, 1, none⟩ (.int .i64 ((rd_T67 l0 x7_1).f1))).heap[gb122]? = some (.cells #[.string ((rd_T67 l0 x7_1).f0), .int .i64 ((rd_T67 l0 x7_1).f1)] 67 (0, 0))) := ⟨by (with_reducible repeat (first | refine blk_drewN ?_ _ | refine blk_drew ?_ | refine blk_alloc ?_ _)); refine blk_put (cs := #[.string ((rd_T67 l0 x7_1).f0), .int .i64 0]) ?_ 1 _ rfl; (with_reducible repeat (first | refine blk_drewN ?_ _ | refine blk_drew ?_ | refine blk_alloc ?_ _)); refine blk_put (cs := #[.string (⟨#[]⟩ : ByteArray), .int .i64 0]) ?_ 0 _ rfl; (with_reducible repeat (first | refine blk_drewN ?_ _ | refine blk_drew ?_ | refine blk_alloc ?_ _)); exact BK122.out⟩
          have n1_ : Aside0 (Below w.heap.size w ((w37.setCell ⟨gb122, 0, none⟩ (.string ((rd_T67 l0 x7_1).f0))).setCell ⟨gb122, 1, none⟩ (.int .i64 ((rd_T67 l0 x7_1).f1)))) := ⟨by repeat (first | (with_reducible first | exact HB.out | apply below_alloc | apply pw_below_drewN | apply below_drew1 | refine below_set ?_ GE122.out) | exact HB.out)⟩
          (try clear BK122)
          (try clear HB)
          generalize ((w37.setCell ⟨gb122, 0, none⟩ (.string ((rd_T67 l0 x7_1).f0))).setCell ⟨gb122, 1, none⟩ (.int .i64 ((rd_T67 l0 x7_1).f1))) = w39 at n0_ n1_ ⊢
          have BK122 := n0_
          have HB := n1_
          clear n0_ n1_
          replace BK122 := Aside0.mk (blk_drew BK122.out)
          replace HB := Aside0.mk (below_drew1 HB.out)
          refine start_ (n := 28) (S := fun w' => w'.cell? ⟨gb122, 0, none⟩ = some (.string ((rd_T67 l0 x7_1).f0)) ∧ w'.cell? ⟨gb122, 1, none⟩ = some (.int .i64 ((rd_T67 l0 x7_1).f1))) (ds := []) #[false, false, false, false, false, false, false, false, false, false, false, false, false, false, false, false, false, false, false, false, false, false, false, false, false, false, false, false] (by kernel_rfl) rfl rfl ⟨(blk_cell BK122.out 0).trans rfl, (blk_cell BK122.out 1).trans rfl⟩ (fun hHeld => ?_); refine with_tabW vec_Right.tab4 vec_Right.bits4 (fun HT_ HW_ => ?_)
          generalize w39.drew = w40 at BK122 HB hHeld ⊢
          refine p_ 0 12 (mk_ 28 0x1) ?_
          refine t_ 1 13 (mk_ 28 0x3) hHeld ?_
          refine one_ (i := 2) (N := some 14) #[true, true, true, false, false, false, false, false, false, false, false, false, false, false, false, false, false, false, false, false, false, false, false, false, false, false, false, false] rfl rfl (one_of HT_.out (by kernel_rfl)) (by decide) (fun K hK => ?_)
          refine goes_ Try.func36 (by kernel_rfl) rfl #[.string ((rd_T67 l0 x7_1).f0)] (by rfl) rfl rfl zq19_2 ?_
          with_reducible refine (id_Right.calls ((rd_T67 l0 x7_1).f0) true _ A5.out).mono ?_
          rintro e w41 ⟨rfl, hb⟩
          refine ⟨_, rfl, ?_⟩
          replace BK122 := Aside0.mk (blk_below (g := gb122) (o := .cells #[.string ((rd_T67 l0 x7_1).f0), .int .i64 ((rd_T67 l0 x7_1).f1)] 67 (0, 0)) zq19_4 hb)
          replace HB := Aside0.mk (below_step zq19_1 hb)
          (try clear hb)
          (try clear hb2)
          (try clear hk)
          (try clear hi)
          refine hK.out _ _ ⟨(blk_cell BK122.out 0).trans rfl, (blk_cell BK122.out 1).trans rfl⟩ (fun hHeld => ?_)
          clear hK K
          refine norm_ (a' := ?_) ?_ ?_
          rotate_left
          ·show Act.put _ (some 14) _ = _
           simp only [Act.put, List.setIfInBounds_toArray, List.set_cons_zero, List.set_cons_succ, i64_w, i32_w]
           rfl
          refine p_ 3 15 (mk_ 28 0xf) ?_
          refine p_ 4 16 (mk_ 28 0x1f) ?_
          refine p_ 5 17 (mk_ 28 0x3f) ?_
          refine t_ 6 18 (mk_ 28 0x7f) hHeld ?_
          refine p_ 7 19 (mk_ 28 0xff) ?_
          refine p_ 8 20 (mk_ 28 0x1ff) ?_
          refine p_ 9 21 (mk_ 28 0x3ff) ?_
          refine p_ 10 22 (mk_ 28 0x7ff) ?_
          refine t_ 11 23 (mk_ 28 0xfff) hHeld ?_
          refine p_ 12 24 (mk_ 28 0x1fff) ?_
          refine p_ 13 25 (mk_ 28 0x3fff) ?_
          refine p_ 14 26 (mk_ 28 0x7fff) ?_
          refine p_ 15 27 (mk_ 28 0xffff) ?_
          refine p_ 16 28 (mk_ 28 0x1ffff) ?_
          refine p_ 17 29 (mk_ 28 0x3ffff) ?_
          refine u_ 18 30 (mk_ 28 0x7ffff) ?_
          refine u_ 19 31 (mk_ 28 0xfffff) ?_
          refine u_ 20 32 (mk_ 28 0x1fffff) ?_
          refine u_ 21 33 (mk_ 28 0x3fffff) ?_
          refine u_ 22 34 (mk_ 28 0x7fffff) ?_
          refine u_ 23 35 (mk_ 28 0xffffff) ?_
          refine u_ 24 36 (mk_ 28 0x1ffffff) ?_
          refine u_ 25 37 (mk_ 28 0x3ffffff) ?_
          refine p_ 26 38 (mk_ 28 0x7ffffff) ?_
          refine p_ 27 39 (mk_ 28 0xfffffff) ?_
          refine done_ (done_of HT_.out (by kernel_rfl)) ?_
          try go_wp2
          go_roundg k1
          case measure => have := HK1.out; omega
          case rel => exact ⟨(wrap64 (x7_1 + 1)), zq19_6, H', ⟨by have := HK1.out; omega⟩, ⟨by repeat (first | (with_reducible first | exact HB.out | apply below_alloc | apply pw_below_drewN | apply below_drew1 | refine below_set ?_ GE122.out) | exact HB.out)⟩⟩
      ·replace c6 := Bool.eq_false_iff.mpr c6
       subst c6
       have H1 : (some false) = some r := by rw [if_neg (show ¬ (false = true) by decide)] at H; exact H
       clear H
       have H := H1
       clear H1
       obtain rfl := Option.some.inj H
       have p121 : 0 ≤ (x7_1 : Int) := of_decide_eq_true zq19_5
       have q121 : x7_1 < (l0.length : Int) := of_decide_eq_true zq19_5
       obtain ⟨ad121, e121, hx121_0, hx121_1⟩ := at_T67 HR0.out x7_1 p121 q121
       cases e121
       replace hx121_0 := (HB.out.cell (World.block_lt_of_cell? w _ hx121_0)).trans hx121_0
       replace hx121_1 := (HB.out.cell (World.block_lt_of_cell? w _ hx121_1)).trans hx121_1
       replace p121 := eq_true p121
       replace q121 := eq_true q121
       try go_wp2_with (first | ((with_reducible refine gate_dst (N := 4) rfl ?_); refine box_event ?hg (N := 4) ?hd (cs := #[.string (⟨#[]⟩ : ByteArray), .int .i64 0]) (t := 67) ?hr ?_; (case hd => rfl); (case hg => rfl); (case hr => first | (go_simp; done) | (go_simp; rfl)); intro gb122 hg w42 hbox hb; have BK122 := Aside0.mk (hbox); have GW122 := Aside0.mk ((zq19_0 : w.heap.size ≤ gb122)); have GE122 := Aside0.mk ((zq19_0 : w.heap.size ≤ gb122)); replace HB := Aside0.mk (below_step zq19_3 hb); clear hb hbox hg; have hcz43_0 : w42.cell? ⟨gb122, 0, none⟩ = some (.string (⟨#[]⟩ : ByteArray)) := (blk_cell BK122.out 0).trans rfl; have hcz43_1 : w42.cell? ⟨gb122, 1, none⟩ = some (.int .i64 0) := (blk_cell BK122.out 1).trans rfl; have hfz43_0 := blk_frozen BK122.out 0; have hfz43_1 := blk_frozen BK122.out 1))
       have n0_ : Aside0 (((w42.setCell ⟨gb122, 0, none⟩ (.string ((rd_T67 l0 x7_1).f0))).setCell ⟨gb122, 1, none⟩ (.int .i64 ((rd_T67 l0 x7_1).f1))).heap[gb122]? = some (.cells #[.string ((rd_T67 l0 x7_1).f0), .int .i64 ((rd_T67 l0 x7_1).f1)] 67 (0, 0))) := ⟨by (with_reducible repeat (first | refine blk_drewN ?_ _ | refine blk_drew ?_ | refine blk_alloc ?_ _)); refine blk_put (cs := #[.string ((rd_T67 l0 x7_1).f0), .int .i64 0]) ?_ 1 _ rfl; (with_reducible repeat (first | refine blk_drewN ?_ _ | refine blk_drew ?_ | refine blk_alloc ?_ _)); refine blk_put (cs := #[.string (⟨#[]⟩ : ByteArray), .int .i64 0]) ?_ 0 _ rfl; (with_reducible repeat (first | refine blk_drewN ?_ _ | refine blk_drew ?_ | refine blk_alloc ?_ _)); exact BK122.out⟩
       have n1_ : Aside0 (Below w.heap.size w ((w42.setCell ⟨gb122, 0, none⟩ (.string ((rd_T67 l0 x7_1).f0))).setCell ⟨gb122, 1, none⟩ (.int .i64 ((rd_T67 l0 x7_1).f1)))) := ⟨by repeat (first | (with_reducible first | exact HB.out | apply below_alloc | apply pw_below_drewN | apply below_drew1 | refine below_set ?_ GE122.out) | exact HB.out)⟩
       (try clear BK122)
       (try clear HB)
       generalize ((w42.setCell ⟨gb122, 0, none⟩ (.string ((rd_T67 l0 x7_1).f0))).setCell ⟨gb122, 1, none⟩ (.int .i64 ((rd_T67 l0 x7_1).f1))) = w44 at n0_ n1_ ⊢
       have BK122 := n0_
       have HB := n1_
       clear n0_ n1_
       replace BK122 := Aside0.mk (blk_drew BK122.out)
       replace HB := Aside0.mk (below_drew1 HB.out)
       refine start_ (n := 28) (S := fun w' => w'.cell? ⟨gb122, 0, none⟩ = some (.string ((rd_T67 l0 x7_1).f0)) ∧ w'.cell? ⟨gb122, 1, none⟩ = some (.int .i64 ((rd_T67 l0 x7_1).f1))) (ds := []) #[false, false, false, false, false, false, false, false, false, false, false, false, false, false, false, false, false, false, false, false, false, false, false, false, false, false, false, false] (by kernel_rfl) rfl rfl ⟨(blk_cell BK122.out 0).trans rfl, (blk_cell BK122.out 1).trans rfl⟩ (fun hHeld => ?_); refine with_tabW vec_Right.tab4 vec_Right.bits4 (fun HT_ HW_ => ?_)
       generalize w44.drew = w45 at BK122 HB hHeld ⊢
       refine p_ 0 12 (mk_ 28 0x1) ?_
       refine t_ 1 13 (mk_ 28 0x3) hHeld ?_
       refine one_ (i := 2) (N := some 14) #[true, true, true, false, false, false, false, false, false, false, false, false, false, false, false, false, false, false, false, false, false, false, false, false, false, false, false, false] rfl rfl (one_of HT_.out (by kernel_rfl)) (by decide) (fun K hK => ?_)
       refine goes_ Try.func36 (by kernel_rfl) rfl #[.string ((rd_T67 l0 x7_1).f0)] (by rfl) rfl rfl zq19_2 ?_
       with_reducible refine (id_Right.calls ((rd_T67 l0 x7_1).f0) false _ A5.out).mono ?_
       rintro e w46 ⟨rfl, hb⟩
       refine ⟨_, rfl, ?_⟩
       replace BK122 := Aside0.mk (blk_below (g := gb122) (o := .cells #[.string ((rd_T67 l0 x7_1).f0), .int .i64 ((rd_T67 l0 x7_1).f1)] 67 (0, 0)) zq19_4 hb)
       replace HB := Aside0.mk (below_step zq19_1 hb)
       (try clear hb)
       (try clear hb2)
       (try clear hk)
       (try clear hi)
       refine hK.out _ _ ⟨(blk_cell BK122.out 0).trans rfl, (blk_cell BK122.out 1).trans rfl⟩ (fun hHeld => ?_)
       clear hK K
       refine norm_ (a' := ?_) ?_ ?_
       rotate_left
       ·show Act.put _ (some 14) _ = _
        simp only [Act.put, List.setIfInBounds_toArray, List.set_cons_zero, List.set_cons_succ, i64_w, i32_w]
        rfl
       refine p_ 3 15 (mk_ 28 0xf) ?_
       refine p_ 4 16 (mk_ 28 0x1f) ?_
       refine u_ 5 17 (mk_ 28 0x3f) ?_
       refine u_ 6 18 (mk_ 28 0x7f) ?_
       refine u_ 7 19 (mk_ 28 0xff) ?_
       refine p_ 8 20 (mk_ 28 0x1ff) ?_
       refine p_ 9 21 (mk_ 28 0x3ff) ?_
       refine u_ 10 22 (mk_ 28 0x7ff) ?_
       refine u_ 11 23 (mk_ 28 0xfff) ?_
       refine u_ 12 24 (mk_ 28 0x1fff) ?_
       refine p_ 13 25 (mk_ 28 0x3fff) ?_
       refine p_ 14 26 (mk_ 28 0x7fff) ?_
       refine u_ 15 27 (mk_ 28 0xffff) ?_
       refine u_ 16 28 (mk_ 28 0x1ffff) ?_
       refine u_ 17 29 (mk_ 28 0x3ffff) ?_
       refine u_ 18 30 (mk_ 28 0x7ffff) ?_
       refine u_ 19 31 (mk_ 28 0xfffff) ?_
       refine u_ 20 32 (mk_ 28 0x1fffff) ?_
       refine u_ 21 33 (mk_ 28 0x3fffff) ?_
       refine u_ 22 34 (mk_ 28 0x7fffff) ?_
       refine u_ 23 35 (mk_ 28 0xffffff) ?_
       refine u_ 24 36 (mk_ 28 0x1ffffff) ?_
       refine u_ 25 37 (mk_ 28 0x3ffffff) ?_
       refine u_ 26 38 (mk_ 28 0x7ffffff) ?_
       refine p_ 27 39 (mk_ 28 0xfffffff) ?_
       refine done_ (done_of HT_.out (by kernel_rfl)) ?_
       try go_wp2
       go_ret
       exact ⟨by first | rfl | (simp [errW_none, errW_some] <;> rfl) | (simp [*, errW_none, errW_some] <;> rfl), by repeat (first | (with_reducible first | exact HB.out | apply below_alloc | apply pw_below_drewN | apply below_drew1 | refine below_set ?_ GE122.out) | exact HB.out)⟩
     ·rw [if_neg c4] at H
      exact absurd H (by simp)
    ·rw [if_neg c3] at H
     exact absurd H (by simp)
   ·rw [if_neg c2] at H
    have c2b0 : decide (x7_1 < (l0.length : Int)) = false := decide_eq_false c2
    clear c2
    obtain rfl := Option.some.inj H
    go_wp2
    go_ret
    exact ⟨by first | rfl | (simp [errW_none, errW_some] <;> rfl) | (simp [*, errW_none, errW_some] <;> rfl), by repeat (first | (with_reducible first | exact HB.out | apply below_alloc | apply pw_below_drewN | apply below_drew1) | exact HB.out)⟩

/-! ### matrix_Right: function 9 -/
theorem zq9_0 {p_ : Prop} (h_ : p_ := by (try simp only [List.map_toArray, List.map_cons, List.map_nil]); first | done | rfl) : p_ := h_
def lessP : Option ByteArray → ByteArray → Bool
 | none, _ => true
 | some q, a => decide (cmpB q a < 0)
def rgM (k : Nat) : Option ByteArray → List S50 → Option Bool
 | _, [] => some true
 | p, x :: l => if rightB x.f0 = true then (vec_Right.f k x.f1).bind fun b => if b = true then (if x.f1.length = 0 then some false else if lessP p x.f0 = true then rgM k (some x.f0) l else some false) else some false else some false
def prevM (m : List S50) (i : Nat) : Option ByteArray := if i = 0 then none else some (m.getD (i - 1) z50).f0
set_option maxHeartbeats 16000000 in
set_option maxRecDepth 100000 in
theorem matrix_Right.at (k : Nat) (A0 : Option Addr) (c0 : Nat) (m : List S50) (res : Bool) (w : World) (hr0 : Kd.C k50 w A0 m.length m) (h : rgM k none m = some res) :
  Calls Try.prog 9 #[.slice A0 m.length c0] w fun e w' => e = .returned (.bool res) ∧ Below w.heap.size w w' := by
 have hlen := hr0.2.1
 have HR := Aside0.mk (fun (i : Nat) (hi : i < m.length) => at_T50 hr0 (i : Int) (by omega) (by omega))
 have H := Aside0.mk h
 clear hr0 h
 generalize hn : m.length = n at *
 have HN := Aside0.mk hn
 clear hn
 have HB := Aside0.mk (Below.refl w.heap.size w)
 have hut := Try.underlying50
 go_enter Try.func9, Try.ntmps9
 go_wp2
 go_loopw [7] (fun vi wr => ∃ (i : Nat), vi = .int .i64 i ∧ i ≤ n ∧ Aside0 (rgM k (prevM m i) (m.drop i) = some res) ∧ Aside0 (Below w.heap.size w wr)) (fun vi _ => n - (intOf vi).toNat)
 case atStart => exact ⟨0, rfl, Nat.zero_le _, ⟨by rw [List.drop_zero]; exact H.out⟩, HB⟩
 case round =>
  clear HB
  obtain ⟨i, rfl, hin, HP, HB⟩ := hrel
  by_cases hj : i < n
  ·obtain ⟨ad, A1, c1, hA, hx0, hx1, hle1, hC1⟩ := HR.out i hj
   have hrd : rd_T50 m (i : Int) = m.getD i z50 := by unfold rd_T50; rw [Int.toNat_natCast]
   rw [hrd] at hx0 hx1 hle1 hC1
   simp only [Int.toNat_natCast] at hx0 hx1
   have hdr := drop_cons_getD m z50 (i := i) (by rw [HN.out]; exact hj)
   have hp := HP.out
   rw [hdr] at hp
   have hpn : prevM m (i + 1) = some (m.getD i z50).f0 := by unfold prevM; rw [if_neg (by omega), Nat.add_sub_cancel]
   have HPN := Aside0.mk hpn
   generalize hx : m.getD i z50 = x at hx0 hx1 hle1 hC1 hp HPN
   have HPP := Aside0.mk hp
   subst hA
   replace hx0 := (HB.out.cell (World.block_lt_of_cell? w _ hx0)).trans hx0
   replace hx1 := (HB.out.cell (World.block_lt_of_cell? w _ hx1)).trans hx1
   have HC1 := Aside0.mk hC1
   have HLE := Aside0.mk hle1
   have pm := eq_true (show (0 : Int) ≤ (i : Int) by omega)
   have qm := eq_true (show (i : Int) < (n : Int) by omega)
   clear hrd hdr hp hpn hx hC1 hle1 HP
   go_upto_region 4 with fail
   have BK := Aside0.mk (blk_new wr (.cells #[.string x.f0, .slice A1 x.f1.length c1] 50))
   have HBR := Aside0.mk (below_alloc (Below.refl wr.heap.size wr) (.cells #[.string x.f0, .slice A1 x.f1.length c1] 50))
   generalize wr.alloc (.cells #[.string x.f0, .slice A1 x.f1.length c1] 50) = w1 at BK HBR ⊢
   replace HB := Aside0.mk (below_step HB.out HBR.out)
   replace HC1 := Aside0.mk (Kd.C_below HC1.out HB.out)
   generalize hg : wr.heap.size = g at BK ⊢
   clear HBR hx0 hx1
   by_cases hR : rightB x.f0 = true
   rotate_left
   ·have hres : res = false := by have h := HPP.out; unfold rgM at h; rw [if_neg hR] at h; exact (Option.some.inj h).symm
    subst hres
    replace hR : rightB x.f0 = false := by simpa using hR
    refine start_ (n := 30) (S := fun w' => w'.cell? ⟨g, 0, none⟩ = some (.string x.f0) ∧ w'.cell? ⟨g, 1, none⟩ = some (.slice A1 x.f1.length c1)) (ds := []) #[false, false, false, false, false, false, false, false, false, false, false, false, false, false, false, false, false, false, false, false, false, false, false, false, false, false, false, false, false, false] (by kernel_rfl) rfl rfl ⟨(blk_cell (blk_drew BK.out) 0).trans rfl, (blk_cell (blk_drew BK.out) 1).trans rfl⟩ (fun hHeld => ?_)
    replace BK := Aside0.mk (blk_drew BK.out)
    replace HC1 := Aside0.mk (Kd.C_drew HC1.out)
    replace HB := Aside0.mk (below_drew1 HB.out)
    generalize w1.drew = w2 at BK HC1 HB hHeld ⊢
    refine p_ 0 12 (mk_ 30 0x1) ?_
    refine t_ 1 13 (mk_ 30 0x3) hHeld ?_
    refine one_ (i := 2) (N := some 14) #[true, true, true, false, false, false, false, false, false, false, false, false, false, false, false, false, false, false, false, false, false, false, false, false, false, false, false, false, false, false] rfl rfl (by kernel_rfl) (by decide) (fun K hK => ?_)
    refine goes_ Try.func36 (by kernel_rfl) rfl #[.string x.f0] (by rfl) rfl rfl zq9_0 ?_
    refine (id_Right.calls x.f0 false w2 (congrArg some hR)).mono ?_
    rintro ev w3 ⟨rfl, hb⟩
    refine ⟨_, rfl, ?_⟩
    replace BK := Aside0.mk (blk_below BK.out hb)
    replace HC1 := Aside0.mk (Kd.C_below HC1.out hb)
    replace HB := Aside0.mk (below_step HB.out hb)
    clear hb
    refine hK.out _ _ ⟨(blk_cell BK.out 0).trans rfl, (blk_cell BK.out 1).trans rfl⟩ (fun hHeld => ?_)
    clear hK K
    refine norm_ (a' := ?_) ?_ ?_
    rotate_left
    ·show Act.put _ (some 14) _ = _
     simp only [Act.put, List.setIfInBounds_toArray, List.set_cons_zero, List.set_cons_succ, i64_w, i32_w]
     rfl
    refine p_ 3 15 (mk_ 30 0xf) ?_
    refine p_ 4 16 (mk_ 30 0x1f) ?_
    refine u_ 5 17 (mk_ 30 0x3f) ?_
    refine u_ 6 18 (mk_ 30 0x7f) ?_
    refine u_ 7 19 (mk_ 30 0xff) ?_
    refine u_ 8 20 (mk_ 30 0x1ff) ?_
    refine p_ 9 21 (mk_ 30 0x3ff) ?_
    refine p_ 10 22 (mk_ 30 0x7ff) ?_
    refine u_ 11 23 (mk_ 30 0xfff) ?_
    refine u_ 12 24 (mk_ 30 0x1fff) ?_
    refine u_ 13 25 (mk_ 30 0x3fff) ?_
    refine u_ 14 26 (mk_ 30 0x7fff) ?_
    refine p_ 15 27 (mk_ 30 0xffff) ?_
    refine p_ 16 28 (mk_ 30 0x1ffff) ?_
    refine u_ 17 29 (mk_ 30 0x3ffff) ?_
    refine u_ 18 30 (mk_ 30 0x7ffff) ?_
    refine u_ 19 31 (mk_ 30 0xfffff) ?_
    refine u_ 20 32 (mk_ 30 0x1fffff) ?_
    refine u_ 21 33 (mk_ 30 0x3fffff) ?_
    refine u_ 22 34 (mk_ 30 0x7fffff) ?_
    refine u_ 23 35 (mk_ 30 0xffffff) ?_
    refine u_ 24 36 (mk_ 30 0x1ffffff) ?_
    refine u_ 25 37 (mk_ 30 0x3ffffff) ?_
    refine u_ 26 38 (mk_ 30 0x7ffffff) ?_
    refine u_ 27 39 (mk_ 30 0xfffffff) ?_
    refine u_ 28 40 (mk_ 30 0x1fffffff) ?_
    refine p_ 29 41 (mk_ 30 0x3fffffff) ?_
    refine done_ (by kernel_rfl) ?_
    go_wp2_with fail
    go_ret
    exact ⟨rfl, HB.out⟩
   have hp := HPP.out
   unfold rgM at hp
   rw [if_pos hR] at hp
   obtain ⟨b, hv, hp⟩ := Option.bind_eq_some_iff.mp hp
   have HV := Aside0.mk hv
   clear hv HPP
   by_cases hb : b = true
   rotate_left
   ·have hres : res = false := by rw [if_neg hb] at hp; exact (Option.some.inj hp).symm
    subst hres
    clear hp
    obtain rfl : b = false := by simpa using hb
    clear hb
    refine start_ (n := 30) (S := fun w' => w'.cell? ⟨g, 0, none⟩ = some (.string x.f0) ∧ w'.cell? ⟨g, 1, none⟩ = some (.slice A1 x.f1.length c1)) (ds := []) #[false, false, false, false, false, false, false, false, false, false, false, false, false, false, false, false, false, false, false, false, false, false, false, false, false, false, false, false, false, false] (by kernel_rfl) rfl rfl ⟨(blk_cell (blk_drew BK.out) 0).trans rfl, (blk_cell (blk_drew BK.out) 1).trans rfl⟩ (fun hHeld => ?_)
    replace BK := Aside0.mk (blk_drew BK.out)
    replace HC1 := Aside0.mk (Kd.C_drew HC1.out)
    replace HB := Aside0.mk (below_drew1 HB.out)
    generalize w1.drew = w2 at BK HC1 HB hHeld ⊢
    refine p_ 0 12 (mk_ 30 0x1) ?_
    refine t_ 1 13 (mk_ 30 0x3) hHeld ?_
    refine one_ (i := 2) (N := some 14) #[true, true, true, false, false, false, false, false, false, false, false, false, false, false, false, false, false, false, false, false, false, false, false, false, false, false, false, false, false, false] rfl rfl (by kernel_rfl) (by decide) (fun K hK => ?_)
    refine goes_ Try.func36 (by kernel_rfl) rfl #[.string x.f0] (by rfl) rfl rfl zq9_0 ?_
    refine (id_Right.calls x.f0 true w2 (congrArg some hR)).mono ?_
    rintro ev w3 ⟨rfl, hb⟩
    refine ⟨_, rfl, ?_⟩
    replace BK := Aside0.mk (blk_below BK.out hb)
    replace HC1 := Aside0.mk (Kd.C_below HC1.out hb)
    replace HB := Aside0.mk (below_step HB.out hb)
    clear hb
    refine hK.out _ _ ⟨(blk_cell BK.out 0).trans rfl, (blk_cell BK.out 1).trans rfl⟩ (fun hHeld => ?_)
    clear hK K
    refine norm_ (a' := ?_) ?_ ?_
    rotate_left
    ·show Act.put _ (some 14) _ = _
     simp only [Act.put, List.setIfInBounds_toArray, List.set_cons_zero, List.set_cons_succ, i64_w, i32_w]
     rfl
    refine p_ 3 15 (mk_ 30 0xf) ?_
    refine p_ 4 16 (mk_ 30 0x1f) ?_
    refine p_ 5 17 (mk_ 30 0x3f) ?_
    refine t_ 6 18 (mk_ 30 0x7f) hHeld ?_
    refine one_ (i := 7) (N := some 19) #[true, true, true, true, true, true, true, true, false, false, false, false, false, false, false, false, false, false, false, false, false, false, false, false, false, false, false, false, false, false] rfl rfl (by kernel_rfl) (by decide) (fun K hK => ?_)
    refine goes_ Try.func19 (by kernel_rfl) rfl #[.slice A1 x.f1.length c1] (by rfl) rfl rfl zq9_0 ?_
    refine (vec_Right.calls k A1 c1 x.f1 false w3 HC1.out HLE.out HV.out).mono ?_
    rintro ev w4 ⟨rfl, hb⟩
    refine ⟨_, rfl, ?_⟩
    replace BK := Aside0.mk (blk_below BK.out hb)
    replace HC1 := Aside0.mk (Kd.C_below HC1.out hb)
    replace HB := Aside0.mk (below_step HB.out hb)
    clear hb
    refine hK.out _ _ ⟨(blk_cell BK.out 0).trans rfl, (blk_cell BK.out 1).trans rfl⟩ (fun hHeld => ?_)
    clear hK K
    refine norm_ (a' := ?_) ?_ ?_
    rotate_left
    ·show Act.put _ (some 19) _ = _
     simp only [Act.put, List.setIfInBounds_toArray, List.set_cons_zero, List.set_cons_succ, i64_w, i32_w]
     rfl
    refine p_ 8 20 (mk_ 30 0x1ff) ?_
    refine p_ 9 21 (mk_ 30 0x3ff) ?_
    refine p_ 10 22 (mk_ 30 0x7ff) ?_
    refine u_ 11 23 (mk_ 30 0xfff) ?_
    refine u_ 12 24 (mk_ 30 0x1fff) ?_
    refine u_ 13 25 (mk_ 30 0x3fff) ?_
    refine u_ 14 26 (mk_ 30 0x7fff) ?_
    refine p_ 15 27 (mk_ 30 0xffff) ?_
    refine p_ 16 28 (mk_ 30 0x1ffff) ?_
    refine u_ 17 29 (mk_ 30 0x3ffff) ?_
    refine u_ 18 30 (mk_ 30 0x7ffff) ?_
    refine u_ 19 31 (mk_ 30 0xfffff) ?_
    refine u_ 20 32 (mk_ 30 0x1fffff) ?_
    refine u_ 21 33 (mk_ 30 0x3fffff) ?_
    refine u_ 22 34 (mk_ 30 0x7fffff) ?_
    refine u_ 23 35 (mk_ 30 0xffffff) ?_
    refine u_ 24 36 (mk_ 30 0x1ffffff) ?_
    refine u_ 25 37 (mk_ 30 0x3ffffff) ?_
    refine u_ 26 38 (mk_ 30 0x7ffffff) ?_
    refine u_ 27 39 (mk_ 30 0xfffffff) ?_
    refine u_ 28 40 (mk_ 30 0x1fffffff) ?_
    refine p_ 29 41 (mk_ 30 0x3fffffff) ?_
    refine done_ (by kernel_rfl) ?_
    go_wp2_with fail
    go_ret
    exact ⟨rfl, HB.out⟩
   rw [if_pos hb] at hp
   subst hb
   by_cases hl : x.f1.length = 0
   ·have hres : res = false := by rw [if_pos hl] at hp; exact (Option.some.inj hp).symm
    subst hres
    clear hp
    have hl1 : ((x.f1.length : Int) == 0) = true := by rw [hl]; rfl
    have hl2 := eq_true (show (x.f1.length : Int) = 0 by omega)
    have hl3 := eq_true hl
    have hl4 : decide (x.f1.length = 0) = true := decide_eq_true hl
    have hl5 := eq_true (List.eq_nil_of_length_eq_zero hl)
    have hl6 : decide (x.f1 = []) = true := by simp only [hl5, decide_true]
    clear hl
    refine start_ (n := 30) (S := fun w' => w'.cell? ⟨g, 0, none⟩ = some (.string x.f0) ∧ w'.cell? ⟨g, 1, none⟩ = some (.slice A1 x.f1.length c1)) (ds := []) #[false, false, false, false, false, false, false, false, false, false, false, false, false, false, false, false, false, false, false, false, false, false, false, false, false, false, false, false, false, false] (by kernel_rfl) rfl rfl ⟨(blk_cell (blk_drew BK.out) 0).trans rfl, (blk_cell (blk_drew BK.out) 1).trans rfl⟩ (fun hHeld => ?_)
    replace BK := Aside0.mk (blk_drew BK.out)
    replace HC1 := Aside0.mk (Kd.C_drew HC1.out)
    replace HB := Aside0.mk (below_drew1 HB.out)
    generalize w1.drew = w2 at BK HC1 HB hHeld ⊢
    refine p_ 0 12 (mk_ 30 0x1) ?_
    refine t_ 1 13 (mk_ 30 0x3) hHeld ?_
    refine one_ (i := 2) (N := some 14) #[true, true, true, false, false, false, false, false, false, false, false, false, false, false, false, false, false, false, false, false, false, false, false, false, false, false, false, false, false, false] rfl rfl (by kernel_rfl) (by decide) (fun K hK => ?_)
    refine goes_ Try.func36 (by kernel_rfl) rfl #[.string x.f0] (by rfl) rfl rfl zq9_0 ?_
    refine (id_Right.calls x.f0 true w2 (congrArg some hR)).mono ?_
    rintro ev w3 ⟨rfl, hb⟩
    refine ⟨_, rfl, ?_⟩
    replace BK := Aside0.mk (blk_below BK.out hb)
    replace HC1 := Aside0.mk (Kd.C_below HC1.out hb)
    replace HB := Aside0.mk (below_step HB.out hb)
    clear hb
    refine hK.out _ _ ⟨(blk_cell BK.out 0).trans rfl, (blk_cell BK.out 1).trans rfl⟩ (fun hHeld => ?_)
    clear hK K
    refine norm_ (a' := ?_) ?_ ?_
    rotate_left
    ·show Act.put _ (some 14) _ = _
     simp only [Act.put, List.setIfInBounds_toArray, List.set_cons_zero, List.set_cons_succ, i64_w, i32_w]
     rfl
    refine p_ 3 15 (mk_ 30 0xf) ?_
    refine p_ 4 16 (mk_ 30 0x1f) ?_
    refine p_ 5 17 (mk_ 30 0x3f) ?_
    refine t_ 6 18 (mk_ 30 0x7f) hHeld ?_
    refine one_ (i := 7) (N := some 19) #[true, true, true, true, true, true, true, true, false, false, false, false, false, false, false, false, false, false, false, false, false, false, false, false, false, false, false, false, false, false] rfl rfl (by kernel_rfl) (by decide) (fun K hK => ?_)
    refine goes_ Try.func19 (by kernel_rfl) rfl #[.slice A1 x.f1.length c1] (by rfl) rfl rfl zq9_0 ?_
    refine (vec_Right.calls k A1 c1 x.f1 true w3 HC1.out HLE.out HV.out).mono ?_
    rintro ev w4 ⟨rfl, hb⟩
    refine ⟨_, rfl, ?_⟩
    replace BK := Aside0.mk (blk_below BK.out hb)
    replace HC1 := Aside0.mk (Kd.C_below HC1.out hb)
    replace HB := Aside0.mk (below_step HB.out hb)
    clear hb
    refine hK.out _ _ ⟨(blk_cell BK.out 0).trans rfl, (blk_cell BK.out 1).trans rfl⟩ (fun hHeld => ?_)
    clear hK K
    refine norm_ (a' := ?_) ?_ ?_
    rotate_left
    ·show Act.put _ (some 19) _ = _
     simp only [Act.put, List.setIfInBounds_toArray, List.set_cons_zero, List.set_cons_succ, i64_w, i32_w]
     rfl
    refine p_ 8 20 (mk_ 30 0x1ff) ?_
    refine p_ 9 21 (mk_ 30 0x3ff) ?_
    refine p_ 10 22 (mk_ 30 0x7ff) ?_
    refine p_ 11 23 (mk_ 30 0xfff) ?_
    refine t_ 12 24 (mk_ 30 0x1fff) hHeld ?_
    refine p_ 13 25 (mk_ 30 0x3fff) ?_
    refine p_ 14 26 (mk_ 30 0x7fff) ?_
    refine p_ 15 27 (mk_ 30 0xffff) ?_
    refine p_ 16 28 (mk_ 30 0x1ffff) ?_
    refine u_ 17 29 (mk_ 30 0x3ffff) ?_
    refine u_ 18 30 (mk_ 30 0x7ffff) ?_
    refine u_ 19 31 (mk_ 30 0xfffff) ?_
    refine u_ 20 32 (mk_ 30 0x1fffff) ?_
    refine u_ 21 33 (mk_ 30 0x3fffff) ?_
    refine u_ 22 34 (mk_ 30 0x7fffff) ?_
    refine u_ 23 35 (mk_ 30 0xffffff) ?_
    refine u_ 24 36 (mk_ 30 0x1ffffff) ?_
    refine u_ 25 37 (mk_ 30 0x3ffffff) ?_
    refine u_ 26 38 (mk_ 30 0x7ffffff) ?_
    refine u_ 27 39 (mk_ 30 0xfffffff) ?_
    refine u_ 28 40 (mk_ 30 0x1fffffff) ?_
    refine p_ 29 41 (mk_ 30 0x3fffffff) ?_
    refine done_ (by kernel_rfl) ?_
    go_wp2_with fail
    go_ret
    exact ⟨rfl, HB.out⟩
   rw [if_neg hl] at hp
   have hl1 : ((x.f1.length : Int) == 0) = false := by rw [beq_eq_false_iff_ne]; omega
   have hl2 := eq_false (show ¬ (x.f1.length : Int) = 0 by omega)
   have hl3 := eq_false hl
   have hl4 : decide (x.f1.length = 0) = false := decide_eq_false hl
   have hl5 := eq_false (show ¬ x.f1 = [] from fun e => hl (by rw [e]; rfl))
   clear hl
   by_cases hz : i = 0
   ·have hlp : lessP (prevM m i) x.f0 = true := by rw [hz]; rfl
    rw [if_pos hlp] at hp
    have HPX := Aside0.mk (show rgM k (prevM m (i + 1)) (m.drop (i + 1)) = some res from by rw [HPN.out]; exact hp)
    have hz1 : decide ((i : Int) > 0) = false := decide_eq_false (by omega)
    have hz2 := eq_false (show ¬ (i : Int) > 0 by omega)
    have hz3 := eq_false (show ¬ 0 < i by omega)
    have hz4 : decide (0 < i) = false := decide_eq_false (by omega)
    clear hp hlp hz
    refine start_ (n := 30) (S := fun w' => w'.cell? ⟨g, 0, none⟩ = some (.string x.f0) ∧ w'.cell? ⟨g, 1, none⟩ = some (.slice A1 x.f1.length c1)) (ds := []) #[false, false, false, false, false, false, false, false, false, false, false, false, false, false, false, false, false, false, false, false, false, false, false, false, false, false, false, false, false, false] (by kernel_rfl) rfl rfl ⟨(blk_cell (blk_drew BK.out) 0).trans rfl, (blk_cell (blk_drew BK.out) 1).trans rfl⟩ (fun hHeld => ?_)
    replace BK := Aside0.mk (blk_drew BK.out)
    replace HC1 := Aside0.mk (Kd.C_drew HC1.out)
    replace HB := Aside0.mk (below_drew1 HB.out)
    generalize w1.drew = w2 at BK HC1 HB hHeld ⊢
    refine p_ 0 12 (mk_ 30 0x1) ?_
    refine t_ 1 13 (mk_ 30 0x3) hHeld ?_
    refine one_ (i := 2) (N := some 14) #[true, true, true, false, false, false, false, false, false, false, false, false, false, false, false, false, false, false, false, false, false, false, false, false, false, false, false, false, false, false] rfl rfl (by kernel_rfl) (by decide) (fun K hK => ?_)
    refine goes_ Try.func36 (by kernel_rfl) rfl #[.string x.f0] (by rfl) rfl rfl zq9_0 ?_
    refine (id_Right.calls x.f0 true w2 (congrArg some hR)).mono ?_
    rintro ev w3 ⟨rfl, hb⟩
    refine ⟨_, rfl, ?_⟩
    replace BK := Aside0.mk (blk_below BK.out hb)
    replace HC1 := Aside0.mk (Kd.C_below HC1.out hb)
    replace HB := Aside0.mk (below_step HB.out hb)
    clear hb
    refine hK.out _ _ ⟨(blk_cell BK.out 0).trans rfl, (blk_cell BK.out 1).trans rfl⟩ (fun hHeld => ?_)
    clear hK K
    refine norm_ (a' := ?_) ?_ ?_
    rotate_left
    ·show Act.put _ (some 14) _ = _
     simp only [Act.put, List.setIfInBounds_toArray, List.set_cons_zero, List.set_cons_succ, i64_w, i32_w]
     rfl
    refine p_ 3 15 (mk_ 30 0xf) ?_
    refine p_ 4 16 (mk_ 30 0x1f) ?_
    refine p_ 5 17 (mk_ 30 0x3f) ?_
    refine t_ 6 18 (mk_ 30 0x7f) hHeld ?_
    refine one_ (i := 7) (N := some 19) #[true, true, true, true, true, true, true, true, false, false, false, false, false, false, false, false, false, false, false, false, false, false, false, false, false, false, false, false, false, false] rfl rfl (by kernel_rfl) (by decide) (fun K hK => ?_)
    refine goes_ Try.func19 (by kernel_rfl) rfl #[.slice A1 x.f1.length c1] (by rfl) rfl rfl zq9_0 ?_
    refine (vec_Right.calls k A1 c1 x.f1 true w3 HC1.out HLE.out HV.out).mono ?_
    rintro ev w4 ⟨rfl, hb⟩
    refine ⟨_, rfl, ?_⟩
    replace BK := Aside0.mk (blk_below BK.out hb)
    replace HC1 := Aside0.mk (Kd.C_below HC1.out hb)
    replace HB := Aside0.mk (below_step HB.out hb)
    clear hb
    refine hK.out _ _ ⟨(blk_cell BK.out 0).trans rfl, (blk_cell BK.out 1).trans rfl⟩ (fun hHeld => ?_)
    clear hK K
    refine norm_ (a' := ?_) ?_ ?_
    rotate_left
    ·show Act.put _ (some 19) _ = _
     simp only [Act.put, List.setIfInBounds_toArray, List.set_cons_zero, List.set_cons_succ, i64_w, i32_w]
     rfl
    refine p_ 8 20 (mk_ 30 0x1ff) ?_
    refine p_ 9 21 (mk_ 30 0x3ff) ?_
    refine p_ 10 22 (mk_ 30 0x7ff) ?_
    refine p_ 11 23 (mk_ 30 0xfff) ?_
    refine t_ 12 24 (mk_ 30 0x1fff) hHeld ?_
    refine p_ 13 25 (mk_ 30 0x3fff) ?_
    refine p_ 14 26 (mk_ 30 0x7fff) ?_
    refine p_ 15 27 (mk_ 30 0xffff) ?_
    refine p_ 16 28 (mk_ 30 0x1ffff) ?_
    refine p_ 17 29 (mk_ 30 0x3ffff) ?_
    refine p_ 18 30 (mk_ 30 0x7ffff) ?_
    refine p_ 19 31 (mk_ 30 0xfffff) ?_
    refine u_ 20 32 (mk_ 30 0x1fffff) ?_
    refine u_ 21 33 (mk_ 30 0x3fffff) ?_
    refine u_ 22 34 (mk_ 30 0x7fffff) ?_
    refine u_ 23 35 (mk_ 30 0xffffff) ?_
    refine u_ 24 36 (mk_ 30 0x1ffffff) ?_
    refine u_ 25 37 (mk_ 30 0x3ffffff) ?_
    refine u_ 26 38 (mk_ 30 0x7ffffff) ?_
    refine u_ 27 39 (mk_ 30 0xfffffff) ?_
    refine p_ 28 40 (mk_ 30 0x1fffffff) ?_
    refine p_ 29 41 (mk_ 30 0x3fffffff) ?_
    refine done_ (by kernel_rfl) ?_
    go_wp2_with fail
    go_roundw
    case rel => exact ⟨i + 1, by go_num, by omega, HPX, HB⟩
    case measure => simp [intOf]; omega
   obtain ⟨ad2, Ay, cy, hA2, hy0, hy1, -, -⟩ := HR.out (i - 1) (by omega)
   obtain rfl := Option.some.inj hA2
   have hrd : rd_T50 m ((i - 1 : Nat) : Int) = m.getD (i - 1) z50 := by unfold rd_T50; rw [Int.toNat_natCast]
   rw [hrd] at hy0 hy1
   simp only [Int.toNat_natCast] at hy0 hy1
   have hpv : prevM m i = some (m.getD (i - 1) z50).f0 := by unfold prevM; rw [if_neg hz]
   rw [hpv] at hp
   generalize m.getD (i - 1) z50 = y at hy0 hy1 hp
   have hz1 : decide ((i : Int) > 0) = true := decide_eq_true (by omega)
   have hz2 := eq_true (show (i : Int) > 0 by omega)
   have hz3 := eq_true (show 0 < i by omega)
   have hz4 : decide (0 < i) = true := decide_eq_true (by omega)
   have hw1 : IntKind.i64.wrap ((i : Int) - 1) = (i : Int) - 1 := by
    have hmax : maxLen = 9223372036854775807 := rfl
    rw [IntKind.wrap_i64] <;> omega
   have hsub : ((i : Int) - 1) = ((i - 1 : Nat) : Int) := by omega
   have hw2 : wrap64 ((i - 1 : Nat) : Int) = ((i - 1 : Nat) : Int) := by
    have hmax : maxLen = 9223372036854775807 := rfl
    rw [Go.Proofs.Ytoodahceejdbcaa.Pure.wrap_id (by omega) (by omega)]
   have pm2 := eq_true (show (0 : Int) ≤ ((i - 1 : Nat) : Int) by omega)
   have qm2 := eq_true (show ((i - 1 : Nat) : Int) < (n : Int) by omega)
   have HY0 := Aside0.mk hy0
   have HY1 := Aside0.mk hy1
   obtain ⟨q, hq⟩ : ∃ q, cmpB y.f0 x.f0 = q := ⟨_, rfl⟩
   have HQ := Aside0.mk hq
   clear hrd hpv hy0 hy1
   by_cases hlt : q < 0
   ·have hlp : lessP (some y.f0) x.f0 = true := by show decide (cmpB y.f0 x.f0 < 0) = true; rw [hq]; exact decide_eq_true hlt
    rw [if_pos hlp] at hp
    have HPX := Aside0.mk (show rgM k (prevM m (i + 1)) (m.drop (i + 1)) = some res from by rw [HPN.out]; exact hp)
    have hq1 : decide (q ≥ 0) = false := decide_eq_false (by omega)
    have hq2 := eq_false (show ¬ q ≥ 0 by omega)
    have hq3 := eq_false (show ¬ 0 ≤ q by omega)
    clear hp hlp hz hq hlt
    refine start_ (n := 30) (S := fun w' => w'.cell? ⟨g, 0, none⟩ = some (.string x.f0) ∧ w'.cell? ⟨g, 1, none⟩ = some (.slice A1 x.f1.length c1) ∧ w'.cell? (ad.add ((i - 1) * 2)) = some (.string y.f0) ∧ w'.cell? ⟨(ad.add ((i - 1) * 2)).block, (ad.add ((i - 1) * 2)).off + 1, none⟩ = some (.slice Ay y.f1.length cy)) (ds := []) #[false, false, false, false, false, false, false, false, false, false, false, false, false, false, false, false, false, false, false, false, false, false, false, false, false, false, false, false, false, false] (by kernel_rfl) rfl rfl ⟨(blk_cell (blk_drew BK.out) 0).trans rfl, (blk_cell (blk_drew BK.out) 1).trans rfl, ((below_drew1 HB.out).cell (World.block_lt_of_cell? w _ HY0.out)).trans HY0.out, ((below_drew1 HB.out).cell (World.block_lt_of_cell? w _ HY1.out)).trans HY1.out⟩ (fun hHeld => ?_)
    replace BK := Aside0.mk (blk_drew BK.out)
    replace HC1 := Aside0.mk (Kd.C_drew HC1.out)
    replace HB := Aside0.mk (below_drew1 HB.out)
    generalize w1.drew = w2 at BK HC1 HB hHeld ⊢
    refine p_ 0 12 (mk_ 30 0x1) ?_
    refine t_ 1 13 (mk_ 30 0x3) hHeld ?_
    refine one_ (i := 2) (N := some 14) #[true, true, true, false, false, false, false, false, false, false, false, false, false, false, false, false, false, false, false, false, false, false, false, false, false, false, false, false, false, false] rfl rfl (by kernel_rfl) (by decide) (fun K hK => ?_)
    refine goes_ Try.func36 (by kernel_rfl) rfl #[.string x.f0] (by rfl) rfl rfl zq9_0 ?_
    refine (id_Right.calls x.f0 true w2 (congrArg some hR)).mono ?_
    rintro ev w3 ⟨rfl, hb⟩
    refine ⟨_, rfl, ?_⟩
    replace BK := Aside0.mk (blk_below BK.out hb)
    replace HC1 := Aside0.mk (Kd.C_below HC1.out hb)
    replace HB := Aside0.mk (below_step HB.out hb)
    clear hb
    refine hK.out _ _ ⟨(blk_cell BK.out 0).trans rfl, (blk_cell BK.out 1).trans rfl, (HB.out.cell (World.block_lt_of_cell? w _ HY0.out)).trans HY0.out, (HB.out.cell (World.block_lt_of_cell? w _ HY1.out)).trans HY1.out⟩ (fun hHeld => ?_)
    clear hK K
    refine norm_ (a' := ?_) ?_ ?_
    rotate_left
    ·show Act.put _ (some 14) _ = _
     simp only [Act.put, List.setIfInBounds_toArray, List.set_cons_zero, List.set_cons_succ, i64_w, i32_w]
     rfl
    refine p_ 3 15 (mk_ 30 0xf) ?_
    refine p_ 4 16 (mk_ 30 0x1f) ?_
    refine p_ 5 17 (mk_ 30 0x3f) ?_
    refine t_ 6 18 (mk_ 30 0x7f) hHeld ?_
    refine one_ (i := 7) (N := some 19) #[true, true, true, true, true, true, true, true, false, false, false, false, false, false, false, false, false, false, false, false, false, false, false, false, false, false, false, false, false, false] rfl rfl (by kernel_rfl) (by decide) (fun K hK => ?_)
    refine goes_ Try.func19 (by kernel_rfl) rfl #[.slice A1 x.f1.length c1] (by rfl) rfl rfl zq9_0 ?_
    refine (vec_Right.calls k A1 c1 x.f1 true w3 HC1.out HLE.out HV.out).mono ?_
    rintro ev w4 ⟨rfl, hb⟩
    refine ⟨_, rfl, ?_⟩
    replace BK := Aside0.mk (blk_below BK.out hb)
    replace HC1 := Aside0.mk (Kd.C_below HC1.out hb)
    replace HB := Aside0.mk (below_step HB.out hb)
    clear hb
    refine hK.out _ _ ⟨(blk_cell BK.out 0).trans rfl, (blk_cell BK.out 1).trans rfl, (HB.out.cell (World.block_lt_of_cell? w _ HY0.out)).trans HY0.out, (HB.out.cell (World.block_lt_of_cell? w _ HY1.out)).trans HY1.out⟩ (fun hHeld => ?_)
    clear hK K
    refine norm_ (a' := ?_) ?_ ?_
    rotate_left
    ·show Act.put _ (some 19) _ = _
     simp only [Act.put, List.setIfInBounds_toArray, List.set_cons_zero, List.set_cons_succ, i64_w, i32_w]
     rfl
    refine p_ 8 20 (mk_ 30 0x1ff) ?_
    refine p_ 9 21 (mk_ 30 0x3ff) ?_
    refine p_ 10 22 (mk_ 30 0x7ff) ?_
    refine p_ 11 23 (mk_ 30 0xfff) ?_
    refine t_ 12 24 (mk_ 30 0x1fff) hHeld ?_
    refine p_ 13 25 (mk_ 30 0x3fff) ?_
    refine p_ 14 26 (mk_ 30 0x7fff) ?_
    refine p_ 15 27 (mk_ 30 0xffff) ?_
    refine p_ 16 28 (mk_ 30 0x1ffff) ?_
    refine p_ 17 29 (mk_ 30 0x3ffff) ?_
    refine p_ 18 30 (mk_ 30 0x7ffff) ?_
    refine p_ 19 31 (mk_ 30 0xfffff) ?_
    refine p_ 20 32 (mk_ 30 0x1fffff) ?_
    refine p_ 21 33 (mk_ 30 0x3fffff) ?_
    refine p_ 22 34 (mk_ 30 0x7fffff) ?_
    refine p_ 23 35 (mk_ 30 0xffffff) ?_
    refine t_ 24 36 (mk_ 30 0x1ffffff) hHeld ?_
    refine t_ 25 37 (mk_ 30 0x3ffffff) hHeld ?_
    refine one_ (i := 26) (N := some 38) #[true, true, true, true, true, true, true, true, true, true, true, true, true, true, true, true, true, true, true, true, true, true, true, true, true, true, true, false, false, false] rfl rfl (by kernel_rfl) (by decide) (fun K hK => ?_)
    refine goes_ Try.func37 (by kernel_rfl) rfl #[.agg #[.string y.f0, .slice Ay y.f1.length cy], .agg #[.string x.f0, .slice A1 x.f1.length c1]] (by rfl) rfl rfl zq9_0 ?_
    refine (matrix_order.raw y.f0 Ay y.f1.length cy x.f0 A1 x.f1.length c1 q w4 HQ.out).mono ?_
    rintro ev w5 ⟨rfl, hb⟩
    refine ⟨_, rfl, ?_⟩
    replace BK := Aside0.mk (blk_below BK.out hb)
    replace HC1 := Aside0.mk (Kd.C_below HC1.out hb)
    replace HB := Aside0.mk (below_step HB.out hb)
    clear hb
    refine hK.out _ _ ⟨(blk_cell BK.out 0).trans rfl, (blk_cell BK.out 1).trans rfl, (HB.out.cell (World.block_lt_of_cell? w _ HY0.out)).trans HY0.out, (HB.out.cell (World.block_lt_of_cell? w _ HY1.out)).trans HY1.out⟩ (fun hHeld => ?_)
    clear hK K
    refine norm_ (a' := ?_) ?_ ?_
    rotate_left
    ·show Act.put _ (some 38) _ = _
     simp only [Act.put, List.setIfInBounds_toArray, List.set_cons_zero, List.set_cons_succ, i64_w, i32_w]
     rfl
    refine p_ 27 39 (mk_ 30 0xfffffff) ?_
    refine p_ 28 40 (mk_ 30 0x1fffffff) ?_
    refine p_ 29 41 (mk_ 30 0x3fffffff) ?_
    refine done_ (by kernel_rfl) ?_
    go_wp2_with fail
    go_roundw
    case rel => exact ⟨i + 1, by go_num, by omega, HPX, HB⟩
    case measure => simp [intOf]; omega
   ·have hlp : ¬ lessP (some y.f0) x.f0 = true := by show ¬ decide (cmpB y.f0 x.f0 < 0) = true; rw [hq, decide_eq_true_eq]; exact hlt
    have hres : res = false := by rw [if_neg hlp] at hp; exact (Option.some.inj hp).symm
    subst hres
    have hq1 : decide (q ≥ 0) = true := decide_eq_true (by omega)
    have hq2 := eq_true (show q ≥ 0 by omega)
    have hq3 := eq_true (show 0 ≤ q by omega)
    clear hp hlp hz hq hlt
    refine start_ (n := 30) (S := fun w' => w'.cell? ⟨g, 0, none⟩ = some (.string x.f0) ∧ w'.cell? ⟨g, 1, none⟩ = some (.slice A1 x.f1.length c1) ∧ w'.cell? (ad.add ((i - 1) * 2)) = some (.string y.f0) ∧ w'.cell? ⟨(ad.add ((i - 1) * 2)).block, (ad.add ((i - 1) * 2)).off + 1, none⟩ = some (.slice Ay y.f1.length cy)) (ds := []) #[false, false, false, false, false, false, false, false, false, false, false, false, false, false, false, false, false, false, false, false, false, false, false, false, false, false, false, false, false, false] (by kernel_rfl) rfl rfl ⟨(blk_cell (blk_drew BK.out) 0).trans rfl, (blk_cell (blk_drew BK.out) 1).trans rfl, ((below_drew1 HB.out).cell (World.block_lt_of_cell? w _ HY0.out)).trans HY0.out, ((below_drew1 HB.out).cell (World.block_lt_of_cell? w _ HY1.out)).trans HY1.out⟩ (fun hHeld => ?_)
    replace BK := Aside0.mk (blk_drew BK.out)
    replace HC1 := Aside0.mk (Kd.C_drew HC1.out)
    replace HB := Aside0.mk (below_drew1 HB.out)
    generalize w1.drew = w2 at BK HC1 HB hHeld ⊢
    refine p_ 0 12 (mk_ 30 0x1) ?_
    refine t_ 1 13 (mk_ 30 0x3) hHeld ?_
    refine one_ (i := 2) (N := some 14) #[true, true, true, false, false, false, false, false, false, false, false, false, false, false, false, false, false, false, false, false, false, false, false, false, false, false, false, false, false, false] rfl rfl (by kernel_rfl) (by decide) (fun K hK => ?_)
    refine goes_ Try.func36 (by kernel_rfl) rfl #[.string x.f0] (by rfl) rfl rfl zq9_0 ?_
    refine (id_Right.calls x.f0 true w2 (congrArg some hR)).mono ?_
    rintro ev w3 ⟨rfl, hb⟩
    refine ⟨_, rfl, ?_⟩
    replace BK := Aside0.mk (blk_below BK.out hb)
    replace HC1 := Aside0.mk (Kd.C_below HC1.out hb)
    replace HB := Aside0.mk (below_step HB.out hb)
    clear hb
    refine hK.out _ _ ⟨(blk_cell BK.out 0).trans rfl, (blk_cell BK.out 1).trans rfl, (HB.out.cell (World.block_lt_of_cell? w _ HY0.out)).trans HY0.out, (HB.out.cell (World.block_lt_of_cell? w _ HY1.out)).trans HY1.out⟩ (fun hHeld => ?_)
    clear hK K
    refine norm_ (a' := ?_) ?_ ?_
    rotate_left
    ·show Act.put _ (some 14) _ = _
     simp only [Act.put, List.setIfInBounds_toArray, List.set_cons_zero, List.set_cons_succ, i64_w, i32_w]
     rfl
    refine p_ 3 15 (mk_ 30 0xf) ?_
    refine p_ 4 16 (mk_ 30 0x1f) ?_
    refine p_ 5 17 (mk_ 30 0x3f) ?_
    refine t_ 6 18 (mk_ 30 0x7f) hHeld ?_
    refine one_ (i := 7) (N := some 19) #[true, true, true, true, true, true, true, true, false, false, false, false, false, false, false, false, false, false, false, false, false, false, false, false, false, false, false, false, false, false] rfl rfl (by kernel_rfl) (by decide) (fun K hK => ?_)
    refine goes_ Try.func19 (by kernel_rfl) rfl #[.slice A1 x.f1.length c1] (by rfl) rfl rfl zq9_0 ?_
    refine (vec_Right.calls k A1 c1 x.f1 true w3 HC1.out HLE.out HV.out).mono ?_
    rintro ev w4 ⟨rfl, hb⟩
    refine ⟨_, rfl, ?_⟩
    replace BK := Aside0.mk (blk_below BK.out hb)
    replace HC1 := Aside0.mk (Kd.C_below HC1.out hb)
    replace HB := Aside0.mk (below_step HB.out hb)
    clear hb
    refine hK.out _ _ ⟨(blk_cell BK.out 0).trans rfl, (blk_cell BK.out 1).trans rfl, (HB.out.cell (World.block_lt_of_cell? w _ HY0.out)).trans HY0.out, (HB.out.cell (World.block_lt_of_cell? w _ HY1.out)).trans HY1.out⟩ (fun hHeld => ?_)
    clear hK K
    refine norm_ (a' := ?_) ?_ ?_
    rotate_left
    ·show Act.put _ (some 19) _ = _
     simp only [Act.put, List.setIfInBounds_toArray, List.set_cons_zero, List.set_cons_succ, i64_w, i32_w]
     rfl
    refine p_ 8 20 (mk_ 30 0x1ff) ?_
    refine p_ 9 21 (mk_ 30 0x3ff) ?_
    refine p_ 10 22 (mk_ 30 0x7ff) ?_
    refine p_ 11 23 (mk_ 30 0xfff) ?_
    refine t_ 12 24 (mk_ 30 0x1fff) hHeld ?_
    refine p_ 13 25 (mk_ 30 0x3fff) ?_
    refine p_ 14 26 (mk_ 30 0x7fff) ?_
    refine p_ 15 27 (mk_ 30 0xffff) ?_
    refine p_ 16 28 (mk_ 30 0x1ffff) ?_
    refine p_ 17 29 (mk_ 30 0x3ffff) ?_
    refine p_ 18 30 (mk_ 30 0x7ffff) ?_
    refine p_ 19 31 (mk_ 30 0xfffff) ?_
    refine p_ 20 32 (mk_ 30 0x1fffff) ?_
    refine p_ 21 33 (mk_ 30 0x3fffff) ?_
    refine p_ 22 34 (mk_ 30 0x7fffff) ?_
    refine p_ 23 35 (mk_ 30 0xffffff) ?_
    refine t_ 24 36 (mk_ 30 0x1ffffff) hHeld ?_
    refine t_ 25 37 (mk_ 30 0x3ffffff) hHeld ?_
    refine one_ (i := 26) (N := some 38) #[true, true, true, true, true, true, true, true, true, true, true, true, true, true, true, true, true, true, true, true, true, true, true, true, true, true, true, false, false, false] rfl rfl (by kernel_rfl) (by decide) (fun K hK => ?_)
    refine goes_ Try.func37 (by kernel_rfl) rfl #[.agg #[.string y.f0, .slice Ay y.f1.length cy], .agg #[.string x.f0, .slice A1 x.f1.length c1]] (by rfl) rfl rfl zq9_0 ?_
    refine (matrix_order.raw y.f0 Ay y.f1.length cy x.f0 A1 x.f1.length c1 q w4 HQ.out).mono ?_
    rintro ev w5 ⟨rfl, hb⟩
    refine ⟨_, rfl, ?_⟩
    replace BK := Aside0.mk (blk_below BK.out hb)
    replace HC1 := Aside0.mk (Kd.C_below HC1.out hb)
    replace HB := Aside0.mk (below_step HB.out hb)
    clear hb
    refine hK.out _ _ ⟨(blk_cell BK.out 0).trans rfl, (blk_cell BK.out 1).trans rfl, (HB.out.cell (World.block_lt_of_cell? w _ HY0.out)).trans HY0.out, (HB.out.cell (World.block_lt_of_cell? w _ HY1.out)).trans HY1.out⟩ (fun hHeld => ?_)
    clear hK K
    refine norm_ (a' := ?_) ?_ ?_
    rotate_left
    ·show Act.put _ (some 38) _ = _
     simp only [Act.put, List.setIfInBounds_toArray, List.set_cons_zero, List.set_cons_succ, i64_w, i32_w]
     rfl
    refine p_ 27 39 (mk_ 30 0xfffffff) ?_
    refine p_ 28 40 (mk_ 30 0x1fffffff) ?_
    refine p_ 29 41 (mk_ 30 0x3fffffff) ?_
    refine done_ (by kernel_rfl) ?_
    go_wp2_with fail
    go_ret
    exact ⟨rfl, HB.out⟩
  ·have hge : decide ((i : Int) < (n : Int)) = false := by simp; omega
   have hres : res = true := by
    have hni : m.drop i = [] := List.drop_of_length_le (by rw [HN.out]; omega)
    have h1 := HP.out
    rw [hni] at h1
    unfold rgM at h1
    exact (Option.some.inj h1).symm
   subst hres
   go_wp2_with fail
   go_ret
   exact ⟨rfl, HB.out⟩
theorem rgM_mono (k : Nat) : ∀ (l : List S50) (p : Option ByteArray), LeO (rgM k p l) (rgM (k + 1) p l)
 | [], _ => LeO.refl _
 | x :: l, p => by
  unfold rgM
  exact LeO.ite (LeO.bind (vec_Right.mono _ _) (fun _ => LeO.ite (LeO.ite (LeO.refl _) (LeO.ite (rgM_mono k l _) (LeO.refl _))) (LeO.refl _))) (LeO.refl _)
def matrix_Right.f (k : Nat) (l0 : List S50) : Option Bool := rgM k none l0
theorem matrix_Right.mono : ∀ a0 k, LeO (matrix_Right.f k a0) (matrix_Right.f (k + 1) a0) := fun a0 k => rgM_mono k a0 none
theorem matrix_Right.calls (k : Nat) (A0 : Option Addr) (c0 : Nat) (l0 : List S50) (r : Bool) (w : World) (hr0 : Kd.C k50 w A0 l0.length l0) (hc0 : l0.length ≤ c0) (h : matrix_Right.f k l0 = some r) :
  Calls Try.prog 9 #[.slice A0 l0.length c0] w fun e w' => e = .returned (.bool r) ∧ Below w.heap.size w w' := matrix_Right.at k A0 c0 l0 r w hr0 h

/-! ### vec_At_52: function 52 -/
def vec_At_52.l0 : Nat → List (S67) → List (S67) → Int → Int → Option (Bool)
  | 0, _, _, _, _ => none
  | k + 1, x0, x1, x12, x13 => if x13 < x12 then (if 0 ≤ x13 then (if x13 < (x0.length : Int) then (if x13 < (x1.length : Int) then (if (!((((rd_T67 x0 x13).f0).toList) == (((rd_T67 x1 x13).f0).toList)) || (!(((rd_T67 x0 x13).f1) == ((rd_T67 x1 x13).f1)))) = true then (some false) else (vec_At_52.l0 k x0 x1 x12 (wrap64 (x13 + 1)))) else (none)) else (none)) else (none)) else (some true)
def vec_At_52.f (k : Nat) (l0 : List (S67)) (l1 : List (S67)) : Option (Bool) := if (l0.length : Int) = (l1.length : Int) then (vec_At_52.l0 k l0 l1 (l0.length : Int) 0) else (some false)
theorem vec_At_52.mono_l : ∀ k, (∀ y0 y1 y2 y3, LeO (vec_At_52.l0 k y0 y1 y2 y3) (vec_At_52.l0 (k + 1) y0 y1 y2 y3))
  | 0 => fun _ _ _ _ r h => by simp [vec_At_52.l0] at h
  | k + 1 => by
    have ih0 := vec_At_52.mono_l k
    · intro y0 y1 y2 y3
      unfold vec_At_52.l0
      repeat' first
      | (with_reducible exact ih0 _ _ _ _)
      | (with_reducible exact LeO.refl _)
      | (with_reducible exact LeO.none _)
      | (with_reducible refine LeO.ite ?_ ?_)
      | (with_reducible refine LeO.bind ?_ (fun _ => ?_))
      | exact ih0 _ _ _ _
      | exact LeO.none _
      | refine LeO.ite ?_ ?_
      | refine LeO.bind ?_ (fun _ => ?_)
theorem vec_At_52.mono : ∀ a0 a1 k, LeO (vec_At_52.f k a0 a1) (vec_At_52.f (k + 1) a0 a1) := by
  intro a0 a1 k
  have ih0 := vec_At_52.mono_l k
  unfold vec_At_52.f
  repeat' first
      | (with_reducible exact ih0 _ _ _ _)
      | (with_reducible exact LeO.refl _)
      | (with_reducible exact LeO.none _)
      | (with_reducible refine LeO.ite ?_ ?_)
      | (with_reducible refine LeO.bind ?_ (fun _ => ?_))
      | exact ih0 _ _ _ _
      | exact LeO.none _
      | refine LeO.ite ?_ ?_
      | refine LeO.bind ?_ (fun _ => ?_)
set_option maxHeartbeats 8000000 in
set_option maxRecDepth 100000 in
theorem vec_At_52.calls (k : Nat) (A0 : Option Addr) (c0 : Nat) (l0 : List (S67)) (A1 : Option Addr) (c1 : Nat) (l1 : List (S67)) (r : Bool) (w : World) (hr0 : Kd.C k67 w A0 l0.length l0) (hc0 : l0.length ≤ c0) (hr1 : Kd.C k67 w A1 l1.length l1) (hc1 : l1.length ≤ c1) (h : vec_At_52.f k l0 l1 = some r) :
    Calls Try.prog 52 #[.slice A0 l0.length c0, .slice A1 l1.length c1] w fun e w' => e = .returned (.bool r) ∧ Drawn0 w w' := by
  have hu67 := Try.underlying67
  have HR0 := Aside0.mk hr0
  have HC0 := Aside0.mk hc0
  clear hr0 hc0
  have HR1 := Aside0.mk hr1
  have HC1 := Aside0.mk hc1
  clear hr1 hc1
  have H : (if (l0.length : Int) = (l1.length : Int) then (vec_At_52.l0 k l0 l1 (l0.length : Int) 0) else (some false)) = some r := h
  clear h
  by_cases c3 : (l0.length : Int) = (l1.length : Int)
  · rw [if_pos c3] at H
    have c3b0 : ((l0.length : Int) == (l1.length : Int)) = true := beq_iff_eq.mpr c3
    have c3b1 : ((l0.length : Int) != (l1.length : Int)) = false := bne_eq_false_iff_eq.mpr c3
    have c3b2 : (l0.length == l1.length) = true := by first | simpa using c3 | (simp at c3 ⊢; omega)
    clear c3
    have H' := Aside0.mk H
    clear H
    go_enter Try.func52, Try.ntmps52
    go_wp2
    repeat (go_quiet (fail); try go_wp2)
    go_loopg [13] k (fun kq v13 w' => ∃ (x13_1 : Int), v13 = .int .i64 x13_1 ∧ Aside0 (vec_At_52.l0 kq l0 l1 (l0.length : Int) x13_1 = some r) ∧ Aside0 (kq ≤ k) ∧ Drawn0 w w')
    case atStart => exact ⟨(0), (by first | rfl | (simp; done) | (simp [*]; done)), H', ⟨Nat.le_refl _⟩, by repeat (first | exact Drawn0.refl _ | apply Drawn0.step)⟩
    case round =>
      clear H'
      try clear c1
      try clear p2
      try clear c3
      try clear c3b0
      try clear c3b1
      try clear c3b2
      obtain ⟨x13_1, rfl, HA, HK1, ⟨m1, rfl⟩⟩ := hrel
      cases gk with
      | zero => exact absurd HA.out (by simp [vec_At_52.l0])
      | succ k1 =>
        have H := HA.out
        clear HA
        simp only [vec_At_52.l0] at H
        by_cases c4 : x13_1 < (l0.length : Int)
        · rw [if_pos c4] at H
          have c4b0 : decide (x13_1 < (l0.length : Int)) = true := decide_eq_true c4
          clear c4
          by_cases c5 : 0 ≤ x13_1
          · rw [if_pos c5] at H
            have c5b0 : decide (0 ≤ x13_1) = true := decide_eq_true c5
            clear c5
            by_cases c6 : x13_1 < (l0.length : Int)
            · rw [if_pos c6] at H
              have c6b0 : decide (x13_1 < (l0.length : Int)) = true := decide_eq_true c6
              clear c6
              by_cases c7 : x13_1 < (l1.length : Int)
              · rw [if_pos c7] at H
                have c7b0 : decide (x13_1 < (l1.length : Int)) = true := decide_eq_true c7
                clear c7
                by_cases c8 : (!((((rd_T67 l0 x13_1).f0).toList) == (((rd_T67 l1 x13_1).f0).toList)) || (!(((rd_T67 l0 x13_1).f1) == ((rd_T67 l1 x13_1).f1)))) = true
                · rw [if_pos c8] at H
                  have c8b0 : (!((((rd_T67 l0 x13_1).f0).toList) == (((rd_T67 l1 x13_1).f0).toList)) || (!(((rd_T67 l0 x13_1).f1) == ((rd_T67 l1 x13_1).f1)))) = true := c8
                  clear c8
                  obtain rfl := Option.some.inj H
                  have p126 : 0 ≤ (x13_1 : Int) := of_decide_eq_true (by first | (with_reducible assumption) | assumption)
                  have q126 : x13_1 < (l0.length : Int) := of_decide_eq_true (by first | (with_reducible assumption) | assumption)
                  obtain ⟨ad126, e126, hx126_0, hx126_1⟩ := at_T67 HR0.out x13_1 p126 q126
                  cases e126
                  replace p126 := eq_true p126
                  replace q126 := eq_true q126
                  have p127 : 0 ≤ (x13_1 : Int) := of_decide_eq_true (by first | (with_reducible assumption) | assumption)
                  have q127 : x13_1 < (l1.length : Int) := of_decide_eq_true (by first | (with_reducible assumption) | assumption)
                  obtain ⟨ad127, e127, hx127_0, hx127_1⟩ := at_T67 HR1.out x13_1 p127 q127
                  cases e127
                  replace p127 := eq_true p127
                  replace q127 := eq_true q127
                  go_wp2
                  repeat (go_quiet (fail); try go_wp2)
                  go_ret
                  exact ⟨by first | rfl | (simp; done) | (simp [*]; done), by repeat (first | exact Drawn0.refl _ | apply Drawn0.step)⟩
                · rw [if_neg c8] at H
                  have c8b0 : (!((((rd_T67 l0 x13_1).f0).toList) == (((rd_T67 l1 x13_1).f0).toList)) || (!(((rd_T67 l0 x13_1).f1) == ((rd_T67 l1 x13_1).f1)))) = false := by simpa using c8
                  clear c8
                  have H' := Aside0.mk H
                  clear H
                  have p126 : 0 ≤ (x13_1 : Int) := of_decide_eq_true (by first | (with_reducible assumption) | assumption)
                  have q126 : x13_1 < (l0.length : Int) := of_decide_eq_true (by first | (with_reducible assumption) | assumption)
                  obtain ⟨ad126, e126, hx126_0, hx126_1⟩ := at_T67 HR0.out x13_1 p126 q126
                  cases e126
                  replace p126 := eq_true p126
                  replace q126 := eq_true q126
                  have p127 : 0 ≤ (x13_1 : Int) := of_decide_eq_true (by first | (with_reducible assumption) | assumption)
                  have q127 : x13_1 < (l1.length : Int) := of_decide_eq_true (by first | (with_reducible assumption) | assumption)
                  obtain ⟨ad127, e127, hx127_0, hx127_1⟩ := at_T67 HR1.out x13_1 p127 q127
                  cases e127
                  replace p127 := eq_true p127
                  replace q127 := eq_true q127
                  go_wp2
                  repeat (go_quiet (fail); try go_wp2)
                  go_roundg k1
                  case measure => have := HK1.out; omega
                  case rel => exact ⟨(wrap64 (x13_1 + 1)), (by first | rfl | (simp; done) | (simp [*]; done)), H', ⟨by have := HK1.out; omega⟩, by repeat (first | exact Drawn0.refl _ | apply Drawn0.step)⟩
              · rw [if_neg c7] at H
                exact absurd H (by simp)
            · rw [if_neg c6] at H
              exact absurd H (by simp)
          · rw [if_neg c5] at H
            exact absurd H (by simp)
        · rw [if_neg c4] at H
          have c4b0 : decide (x13_1 < (l0.length : Int)) = false := decide_eq_false c4
          clear c4
          obtain rfl := Option.some.inj H
          go_wp2
          repeat (go_quiet (fail); try go_wp2)
          go_ret
          exact ⟨by first | rfl | (simp; done) | (simp [*]; done), by repeat (first | exact Drawn0.refl _ | apply Drawn0.step)⟩
  · rw [if_neg c3] at H
    have c3b0 : ((l0.length : Int) == (l1.length : Int)) = false := beq_eq_false_iff_ne.mpr c3
    have c3b1 : ((l0.length : Int) != (l1.length : Int)) = true := bne_iff_ne.mpr c3
    have c3b2 : (l0.length == l1.length) = false := by first | simpa using c3 | (simp at c3 ⊢; omega)
    obtain rfl := Option.some.inj H
    go_enter Try.func52, Try.ntmps52
    go_wp2
    repeat (go_quiet (fail); try go_wp2)
    go_ret
    exact ⟨by first | rfl | (simp; done) | (simp [*]; done), by repeat (first | exact Drawn0.refl _ | apply Drawn0.step)⟩

/-! ### vec_Same: function 23 -/
def vec_Same.f (k : Nat) (l0 : List (S67)) (l1 : List (S67)) : Option (Bool) := (vec_At_52.f k l0 l1).bind fun t128 => (some t128)
theorem vec_Same.mono : ∀ a0 a1 k, LeO (vec_Same.f k a0 a1) (vec_Same.f (k + 1) a0 a1) := by
  intro a0 a1 k
  unfold vec_Same.f
  repeat' first
      | (with_reducible exact vec_At_52.mono _ _ _)
      | (with_reducible exact LeO.refl _)
      | (with_reducible exact LeO.none _)
      | (with_reducible refine LeO.ite ?_ ?_)
      | (with_reducible refine LeO.bind ?_ (fun _ => ?_))
      | exact vec_At_52.mono _ _ _
      | exact LeO.none _
      | refine LeO.ite ?_ ?_
      | refine LeO.bind ?_ (fun _ => ?_)
set_option maxHeartbeats 8000000 in
set_option maxRecDepth 100000 in
theorem vec_Same.calls (k : Nat) (A0 : Option Addr) (c0 : Nat) (l0 : List (S67)) (A1 : Option Addr) (c1 : Nat) (l1 : List (S67)) (r : Bool) (w : World) (hr0 : Kd.C k67 w A0 l0.length l0) (hc0 : l0.length ≤ c0) (hr1 : Kd.C k67 w A1 l1.length l1) (hc1 : l1.length ≤ c1) (h : vec_Same.f k l0 l1 = some r) :
    Calls Try.prog 23 #[.slice A0 l0.length c0, .slice A1 l1.length c1] w fun e w' => e = .returned (.bool r) ∧ Drawn0 w w' := by
  have HR0 := Aside0.mk hr0
  have HC0 := Aside0.mk hc0
  clear hr0 hc0
  have HR1 := Aside0.mk hr1
  have HC1 := Aside0.mk hc1
  clear hr1 hc1
  have H : ((vec_At_52.f k l0 l1).bind fun t128 => (some t128)) = some r := h
  clear h
  replace H := Option.bind_eq_some_iff.mp H
  obtain ⟨t128, A30, H⟩ := H
  have A3 := Aside0.mk A30
  clear A30
  obtain rfl := Option.some.inj H
  go_enter Try.func23, Try.ntmps23
  go_wp2_with (first | ((with_reducible refine gate_callee (f := 52) rfl ?_); refine goesL_ (some 7) rfl rfl Try.func52 (by kernel_rfl) rfl #[.slice A0 l0.length c0, .slice A1 l1.length c1] rfl (by (try simp only [List.map_toArray, List.map_cons, List.map_nil]); first | done | rfl | (simp only [List.length_drop, List.length_take]; rfl)) ?_; (with_reducible refine (vec_At_52.calls k _ _ l0 _ _ l1 t128 _ ?side1 ?side2 ?side3 ?side4 A3.out).mono ?_); (case side1 => repeat (first | exact HR0.out | (with_reducible refine Kd.C_alloc ?_ _) | (with_reducible refine Kd.C_drewN ?_ _) | (with_reducible refine Kd.C_drew ?_))); (case side2 => exact HC0.out); (case side3 => repeat (first | exact HR1.out | (with_reducible refine Kd.C_alloc ?_ _) | (with_reducible refine Kd.C_drewN ?_ _) | (with_reducible refine Kd.C_drew ?_))); (case side4 => exact HC1.out); rintro e w' ⟨rfl, ⟨nd, rfl⟩⟩; refine ⟨_, rfl, ?_⟩))
  go_ret
  exact ⟨by first | rfl | (simp; done) | (simp [*]; done), by repeat (first | exact Drawn0.refl _ | apply Drawn0.step)⟩

/-! ### vec_Set: function 53 -/
theorem vecs_hov (w : World) (vb b off lb cb m vc : Nat) (tA tB : TypeId) (kA kB : Nat) (hvb : vb ≠ b) (hsa : w.shape? vb = some (tA, kA)) (hsb : w.shape? b = some (tB, kB)) (hkB : kB ≠ 0) (hfa : w.frozen? ⟨vb, 0, none⟩ = false) (hfe : w.frozen? ⟨vb, kA, none⟩ = false) :
  (callFunc 76 #[.slice (some ⟨vb, 0, none⟩) m vc, .slice (some ⟨b, off, none⟩) lb cb]).run Try.prog w = .ok (.value (.bool false)) w := by
 rw [run_callFunc_extern Try.func76 (by kernel_rfl) (by kernel_rfl) (by kernel_rfl) (e := Extern.SlicesOverlaps.overlaps #[35, 35] #[4]) (by kernel_rfl),
  Lib.run_overlaps_apart w 35 4 67 Try.underlying35 2 (fun w => by obtain ⟨i0, hi, h0, h1, h2⟩ := info_parts info67; simp [sizeOf, typeInfo, hi, h1]) ⟨vb, 0, none⟩ ⟨b, off, none⟩ m vc lb cb hvb tA tB kA kB hsa hsb hkB hfa hfe]
 rfl
set_option maxHeartbeats 4000000 in
set_option maxRecDepth 100000 in
theorem vecs_insert_room (w : World) (base : Nat) (ok okp : Nat → Prop) (g cap : Nat) (cur : Array Value) (l : List S67) (i : Nat) (x : S67) (cs : List Value) (vb : Nat) (tv : TypeId)
  (hg : base ≤ g) (hk : ok g) (hh : w.heap[g]? = some (.cells cur 67 (0, 0))) (hc : l.length + 1 ≤ cap) (h3 : cap ≤ maxLen) (h4 : cur.size = cap * 2) (hp : Reps (Kd.M k67 w base (fun k => ok k ∧ k ≠ g)) 2 l (cur.toList.take (l.length * 2)))
  (hi : i < l.length) (hx : Kd.M k67 w base okp x cs) (hokp : ∀ k, okp k → ok k ∧ k ≠ g) (hv : w.heap[vb]? = some (.cells cs.toArray tv (0, 0))) (hvb : vb ≠ g) :
  Calls Try.prog 68 #[.slice (some ⟨g, 0, none⟩) l.length cap, .int .i64 i, .slice (some ⟨vb, 0, none⟩) 1 1] w fun e w' => ∃ v' : Value, e = .returned v' ∧ Kd.R k67 67 w' base ok v' (l.take i ++ x :: l.drop i) ∧ w.grownBy w' (some g) := by
 obtain ⟨i0, hi0, hz0, hsz0, hby0⟩ := info_parts info67
 have hR : Kd.R k67 67 ((w.drew.setCells g ((i + 1) * 2) ((cur.toList.take (l.length * 2)).drop (i * 2))).setCells g (i * 2) cs) base ok (.slice (some ⟨g, 0, none⟩) (l.length + 1) cap) (l.take i ++ x :: l.drop i) ∧ w.grownBy ((w.drew.setCells g ((i + 1) * 2) ((cur.toList.take (l.length * 2)).drop (i * 2))).setCells g (i * 2) cs) (some g) := R_insert_room (d := k67) (e := 67) hg hk hh hc h3 h4 hp (Nat.le_of_lt hi) hx hokp 1
 have hcl : cs.length = 2 := (Kd.K_len k67 (Kd.K_of_M k67 hx))
 have h1v : ∀ u ∈ cs, u.oneCell' = true := Kd.K_one k67 (Kd.K_of_M k67 hx)
 have h1c := cells_one (d := k67) hp (by decide : 0 < 2)
 have hil : (cur.toList.take (l.length * 2)).length = l.length * 2 := hp.1
 generalize hinner : cur.toList.take (l.length * 2) = inner at hR h1c hil
 have hM : maxLen = 9223372036854775807 := rfl
 have hm0 : cap ≤ 9223372036854775807 := by rw [← hM]; exact h3
 have hcell : ∀ j u, inner[j]? = some u → w.cell? ⟨g, j, none⟩ = some u := fun j u hj => by
  rw [blk_cell hh j, ← Array.getElem?_toList]
  rw [← hinner, List.getElem?_take] at hj
  split at hj
  ·exact hj
  ·cases hj
 have hsp : ∀ j, j < cap * 2 → (w.cell? ⟨g, j, none⟩).isSome = true := fun j hj => by
  rw [blk_cell hh j, Array.getElem?_eq_getElem (by omega)]; rfl
 have hfz : ∀ j, w.frozen? ⟨g, j, none⟩ = false := fun j => blk_frozen hh j
 have hvs : ∀ j u, cs[j]? = some u → w.cell? ⟨vb, j, none⟩ = some u := fun j u hj => by
  rw [blk_cell hv j]; simpa using hj
 have hsa : w.shape? vb = some (tv, cs.length) := by simp [World.shape?, hv]
 have hsb : w.shape? g = some (67, cap * 2) := by simp [World.shape?, hh, h4]
 have hov : ∀ W lb cb, (∀ k, W.heap[k]? = w.heap[k]?) → (callFunc 76 #[.slice (some ⟨vb, 0, none⟩) 1 1, .slice (some ⟨g, (i + 1) * 2, none⟩) lb cb]).run Try.prog W = .ok (.value (.bool false)) W := fun W lb cb hW =>
  vecs_hov W vb g ((i + 1) * 2) lb cb 1 1 tv 67 cs.length (cap * 2) hvb (by unfold World.shape? at hsa ⊢; rw [hW]; exact hsa) (by unfold World.shape? at hsb ⊢; rw [hW]; exact hsb) (by omega) (by unfold World.frozen?; simp [hW, hv]) (by unfold World.frozen?; simp [hW, hv])
 have hdl : (inner.drop (i * 2)).length = (l.length - i) * 2 := by rw [List.length_drop, hil, Nat.sub_mul]
 have hsz : (Try.prog.info? 67).map (·.size) = some 2 := by rw [hi0]; simp [hsz0]
 have hcp1 : ∀ (W : World), (∀ a, W.cell? a = w.cell? a) → (∀ a, W.frozen? a = w.frozen? a) → ∀ ty dc sc, (Builtin.copy_ #[36, 36] ty #[.slice (some ⟨g, (i + 1) * 2, none⟩) (l.length - i) dc, .slice (some ⟨g, i * 2, none⟩) (l.length + 1 - i) sc]).run Try.prog W = .ok (goInt (l.length - i : Nat)) (W.setCells g ((i + 1) * 2) (inner.drop (i * 2))) := fun W hW hF ty dc sc => by
  have := run_copy_k (P := Try.prog) W 36 36 ty 67 2 g ((i + 1) * 2) (l.length - i) dc ⟨g, i * 2, none⟩ (l.length + 1 - i) sc (inner.drop (i * 2)) Try.underlying36 hsz (by rw [hdl]; congr 1; simp only [Nat.min_def]; split <;> omega)
   (fun j u hj => by rw [Addr.add_lit, hW]; exact hcell _ u (by rwa [List.getElem?_drop] at hj))
   (fun j hj => by rw [hW]; exact hsp _ (by omega)) (fun j hj => by rw [hF]; exact hfz _) (fun u hu => h1c u (List.mem_of_mem_drop hu))
  rw [this]
  congr 2
  simp only [Nat.min_def]; split <;> omega
 have hcp2 : ∀ (W : World), (∀ a, W.cell? a = (w.setCells g ((i + 1) * 2) (inner.drop (i * 2))).cell? a) → (∀ a, W.frozen? a = w.frozen? a) → ∀ ty dc sc, (Builtin.copy_ #[36, 35] ty #[.slice (some ⟨g, i * 2, none⟩) (l.length + 1 - i) dc, .slice (some ⟨vb, 0, none⟩) 1 sc]).run Try.prog W = .ok (goInt (1 : Nat)) (W.setCells g (i * 2) cs) := fun W hW hF ty dc sc => by
  have := run_copy_k (P := Try.prog) W 36 35 ty 67 2 g (i * 2) (l.length + 1 - i) dc ⟨vb, 0, none⟩ 1 sc cs Try.underlying36 hsz (by rw [hcl]; simp only [Nat.min_def]; split <;> omega)
   (fun j u hj => by rw [Addr.add_lit, Nat.zero_add, hW, World.cell?_setCells_out _ _ _ _ _ (fun h _ => absurd h hvb)]; exact hvs _ u hj)
   (fun j hj => by
    rw [hW]
    by_cases hin : (i + 1) * 2 ≤ i * 2 + j
    ·omega
    ·rw [World.cell?_setCells_out _ _ _ _ _ (fun _ _ => Or.inl (by show i * 2 + j < (i + 1) * 2; omega))]
     exact hsp _ (by omega))
   (fun j hj => by rw [hF]; exact hfz _) h1v
  rw [this]
  congr 2
  simp only [Nat.min_def]; split <;> omega
 have e1 : ((i : Int) + 1) = ((i + 1 : Nat) : Int) := by omega
 have hw1 : IntKind.i64.wrap ((i : Int) + 1) = (i : Int) + 1 := by rw [IntKind.wrap_i64]; omega
 have hw2 : IntKind.i64.wrap ((l.length : Int) + 1) = (l.length : Int) + 1 := by rw [IntKind.wrap_i64]; omega
 have c1 := cut_from (P := Try.prog) 36 67 .i64 Try.underlying36 hi0 2 hsz0 (some ⟨g, 0, none⟩) l.length cap (i : Int) (by omega) (by omega)
 have c2 : ∀ W : World, (Instr.slice 36 (.slice (some ⟨g, 0, none⟩) l.length cap) none (some (.int .i64 ((l.length : Int) + 1))) none).run Try.prog W = .ok (.slice (some ⟨g, 0, none⟩) (l.length + 1) cap) W := by
  intro W
  have hel : (Try.prog).elem 36 = 67 := by simp [Program.elem, Try.underlying36]
  rw [run_slice_h W 36 (some ⟨g, 0, none⟩) l.length cap (by rw [hel]; exact Try.underlying36) .i64 ((l.length : Int) + 1) (by omega) (by omega), hel]
  simp [sizeOf, typeInfo, hi0, sliced, Result.andThen, Addr.add]
 have c3 : ∀ W : World, (Instr.slice 36 (.slice (some ⟨g, 0, none⟩) (l.length + 1) cap) (some (.int .i64 ((i : Int) + 1))) none none).run Try.prog W = .ok (.slice (some ⟨g, (i + 1) * 2, none⟩) (l.length - i) (cap - (i + 1))) W := by
  intro W
  rw [e1, cut_from (P := Try.prog) 36 67 .i64 Try.underlying36 hi0 2 hsz0 (some ⟨g, 0, none⟩) (l.length + 1) cap ((i + 1 : Nat) : Int) (by omega) (by omega) W, Int.toNat_natCast, if_neg (by omega), Option.map_some, Addr.add_lit, Nat.zero_add, show l.length + 1 - (i + 1) = l.length - i by omega]
 have c4 : ∀ W : World, (Instr.slice 36 (.slice (some ⟨g, 0, none⟩) (l.length + 1) cap) (some (.int .i64 (i : Int))) none none).run Try.prog W = .ok (.slice (some ⟨g, i * 2, none⟩) (l.length + 1 - i) (cap - i)) W := by
  intro W
  rw [cut_from (P := Try.prog) 36 67 .i64 Try.underlying36 hi0 2 hsz0 (some ⟨g, 0, none⟩) (l.length + 1) cap (i : Int) (by omega) (by omega) W, Int.toNat_natCast, if_neg (by omega), Option.map_some, Addr.add_lit, Nat.zero_add]
 have hb1 : decide ((1 : Int) = 0) = false := rfl
 have hb2 : decide ((i : Int) = (l.length : Int)) = false := by simp; omega
 have hb3 : decide ((cap : Int) < (l.length : Int) + 1) = false := by simp; omega
 have hovw := fun lb cb => hov w lb cb (fun _ => rfl)
 have HR := Aside0.mk hR
 clear hR hov e1
 go_enter Try.func68, Try.ntmps68
 go_wp2_with (simp only [hovw])
 have hc1 := hcp1 w.drew (fun _ => rfl) (fun _ => rfl) 3 (cap - (i + 1)) (cap - i)
 have hc2 := hcp2 (w.drew.setCells g ((i + 1) * 2) (inner.drop (i * 2))) (fun _ => by rw [← drew_setCells]; rfl) (fun _ => World.frozen?_setCells _ _ _ _ _) 3 (cap - i) 1
 have mixed : (Try.prog).follows .mixedOrders = true := rfl
 go_region_law_o (refine step_copy_runI rfl _ _ 36 36 rfl (.slice (some ⟨g, (i + 1) * 2, none⟩) (l.length - i) (cap - (i + 1))) (.slice (some ⟨g, i * 2, none⟩) (l.length + 1 - i) (cap - i)) (by simp [Act.eval, Act.put]) (by simp [Act.eval, Act.put]) hc1 ?_)
 clear hc1
 go_wp2_with (at_builtin; refine wpList_copy_runI _ rfl _ _ 36 35 rfl _ _ rfl rfl hc2 ?_)
 go_ret
 exact ⟨_, rfl, HR.out.1, HR.out.2⟩
set_option maxHeartbeats 4000000 in
set_option maxRecDepth 100000 in
theorem vecs_insert_grow (w : World) (base : Nat) (ok okp : Nat → Prop) (g cap : Nat) (cur : Array Value) (l : List S67) (i : Nat) (x : S67) (cs : List Value) (vb : Nat) (tv : TypeId)
  (hbase : base ≤ w.heap.size) (hfresh : ∀ k, w.heap.size ≤ k → ok k) (hh : w.heap[g]? = some (.cells cur 67 (0, 0))) (hnc : l.length ≤ cap) (hc : cap < l.length + 1) (h4 : cur.size = cap * 2) (hp : Reps (Kd.M k67 w base (fun k => ok k ∧ k ≠ g)) 2 l (cur.toList.take (l.length * 2)))
  (hi : i < l.length) (hx : Kd.M k67 w base okp x cs) (hokp : ∀ k, okp k → ok k ∧ k ≠ g) (hv : w.heap[vb]? = some (.cells cs.toArray tv (0, 0))) (hvb : vb ≠ g) (hbig : (l.length + 1) * 24 ≤ 140737488355328) :
  Calls Try.prog 68 #[.slice (some ⟨g, 0, none⟩) l.length cap, .int .i64 i, .slice (some ⟨vb, 0, none⟩) 1 1] w fun e w' => ∃ v' : Value, e = .returned v' ∧ Kd.R k67 67 w' base ok v' (l.take i ++ x :: l.drop i) ∧ w.grownBy w' none := by
 obtain ⟨i0, hi0, hz0, hsz0, hby0⟩ := info_parts info67
 have hcl : cs.length = 2 := (Kd.K_len k67 (Kd.K_of_M k67 hx))
 have h1v : ∀ u ∈ cs, u.oneCell' = true := Kd.K_one k67 (Kd.K_of_M k67 hx)
 have h1c := cells_one (d := k67) hp (by decide : 0 < 2)
 have hil : (cur.toList.take (l.length * 2)).length = l.length * 2 := hp.1
 generalize hinner : cur.toList.take (l.length * 2) = inner at hp h1c hil
 have hcell : ∀ j u, inner[j]? = some u → w.cell? ⟨g, j, none⟩ = some u := fun j u hj => by
  rw [blk_cell hh j, ← Array.getElem?_toList]
  rw [← hinner, List.getElem?_take] at hj
  split at hj
  ·exact hj
  ·cases hj
 have hvs : ∀ j u, cs[j]? = some u → w.cell? ⟨vb, j, none⟩ = some u := fun j u hj => by
  rw [blk_cell hv j]; simpa using hj
 have hgw : g < w.heap.size := blk_lt hh
 have hvw : vb < w.heap.size := blk_lt hv
 have hsz : (Try.prog.info? 67).map (·.size) = some 2 := by rw [hi0]; simp [hsz0]
 have hdl : (inner.drop (i * 2)).length = (l.length - i) * 2 := by rw [List.length_drop, hil, Nat.sub_mul]
 have hik : i + (l.length + 1 - i) = l.length + 1 := by omega
 have hkk : (l.length : Int) + 1 - (i : Int) = ((l.length + 1 - i : Nat) : Int) := by omega
 have hold : (Builtin.firstCells i0.size i (.slice (some ⟨g, 0, none⟩) i cap)).run Try.prog w.drew = .ok (inner.take (i * 2)).toArray w.drew := by
  rw [hsz0]
  exact run_firstCells_some w.drew 2 i ⟨g, 0, none⟩ i cap (inner.take (i * 2)) (by rw [List.length_take, hil]; omega) (fun j v hj => by
   rw [Addr.add_lit, Nat.zero_add]
   rw [List.getElem?_take] at hj
   split at hj
   ·exact hcell j v hj
   ·cases hj)
 have hrz := Lib.run_append_grow_zeros (P := Try.prog) w 36 3 36 67 i0 _ .i64 .i64 Try.underlying36 Try.underlying3 hi0 hz0 (some ⟨g, 0, none⟩) i cap (inner.take (i * 2)) hold (l.length + 1 - i) (by omega) (by omega) (by omega) (by omega) (by rw [hby0]; omega) (by rw [hby0, hik]; exact growslice_fits hc hbig)
 rw [hik, ← hkk] at hrz
 have hGn : l.length + 1 ≤ grownCap w (l.length + 1) cap 67 := grownCap_ge w _ _ _
 have hG63 : grownCap w (l.length + 1) cap 67 ≤ maxLen := grownCap_le_maxLen w (l.length + 1) cap 67 (by unfold maxLen; omega)
 generalize grownCap w (l.length + 1) cap 67 = G at hrz hGn hG63
 generalize hROW : (inner.take (i * 2)).toArray ++ Builtin.zeroCells _ (l.length + 1 - i) ++ Builtin.zeroCells _ (G - (l.length + 1)) = ROW at hrz
 have hRl : ROW.size = G * 2 := by
  rw [← hROW]
  simp [Builtin.zeroCells, Value.cells, hil]
  omega
 have hrow : ROW.toList.take (i * 2) = inner.take (i * 2) := by
  rw [← hROW]
  simp only [Array.toList_append, List.append_assoc]
  rw [List.take_append_of_le_length (by rw [List.length_take, hil]; omega), List.take_take, Nat.min_self]
 have hR : Kd.R k67 67 (((w.alloc (.cells ROW 67)).drew.setCells w.heap.size (i * 2) cs).drew.setCells w.heap.size ((i + 1) * 2) (inner.drop (i * 2))) base ok (.slice (some ⟨w.heap.size, 0, none⟩) (l.length + 1) G) (l.take i ++ x :: l.drop i) ∧ w.grownBy (((w.alloc (.cells ROW 67)).drew.setCells w.heap.size (i * 2) cs).drew.setCells w.heap.size ((i + 1) * 2) (inner.drop (i * 2))) none :=
  R_insert_grow (d := k67) (e := 67) hbase hfresh hGn hG63 hRl (hp.imp_ fun _ _ hq => Kd.M_mono k67 (fun k hk => hk.1) hq) hrow (Nat.le_of_lt hi) (Kd.M_mono k67 (fun k hk => (hokp k hk).1) hx) 1 1
 have HR := Aside0.mk hR
 clear hR hROW hrow hp hx hokp hold
 obtain ⟨W1, hW1⟩ : ∃ W1, W1 = (w.alloc (.cells ROW 67)).drew := ⟨_, rfl⟩
 have hN : ∀ j, j < (l.length + 1) * 2 → (W1.cell? ⟨w.heap.size, j, none⟩).isSome = true := fun j hj => by
  rw [hW1]
  show ((w.alloc (.cells ROW 67)).cell? ⟨w.heap.size, j, none⟩).isSome = true
  rw [blk_cell (blk_new w (.cells ROW 67)) j, Array.getElem?_eq_getElem (by omega)]; rfl
 have hNf : ∀ j, W1.frozen? ⟨w.heap.size, j, none⟩ = false := fun j => by rw [hW1]; exact blk_frozen (blk_new w (.cells ROW 67)) j
 have hOb : ∀ j u, w.cell? ⟨g, j, none⟩ = some u → W1.cell? ⟨g, j, none⟩ = some u := fun j u h => by
  rw [hW1]; exact (((Below.refl w.heap.size w).alloc (Nat.le_refl _) (.cells ROW 67)).cell (p := ⟨g, j, none⟩) hgw).trans h
 have hOv : ∀ j u, w.cell? ⟨vb, j, none⟩ = some u → W1.cell? ⟨vb, j, none⟩ = some u := fun j u h => by
  rw [hW1]; exact (((Below.refl w.heap.size w).alloc (Nat.le_refl _) (.cells ROW 67)).cell (p := ⟨vb, j, none⟩) hvw).trans h
 have hcpA : ∀ (W : World), (∀ a, W.cell? a = W1.cell? a) → (∀ a, W.frozen? a = W1.frozen? a) → ∀ ty dc sc, (Builtin.copy_ #[36, 35] ty #[.slice (some ⟨w.heap.size, i * 2, none⟩) (l.length + 1 - i) dc, .slice (some ⟨vb, 0, none⟩) 1 sc]).run Try.prog W = .ok (goInt (1 : Nat)) (W.setCells w.heap.size (i * 2) cs) := fun W hW hF ty dc sc => by
  have := run_copy_k (P := Try.prog) W 36 35 ty 67 2 w.heap.size (i * 2) (l.length + 1 - i) dc ⟨vb, 0, none⟩ 1 sc cs Try.underlying36 hsz (by rw [hcl]; simp only [Nat.min_def]; split <;> omega)
   (fun j u hj => by rw [Addr.add_lit, Nat.zero_add, hW]; exact hOv _ u (hvs _ u hj))
   (fun j hj => by rw [hW]; exact hN _ (by omega)) (fun j hj => by rw [hF]; exact hNf _) h1v
  rw [this]
  congr 2
  simp only [Nat.min_def]; split <;> omega
 have hgN : g ≠ w.heap.size := by omega
 have hcpB : ∀ (W : World), (∀ a, W.cell? a = (W1.setCells w.heap.size (i * 2) cs).cell? a) → (∀ a, W.frozen? a = W1.frozen? a) → ∀ ty dc sc, (Builtin.copy_ #[36, 36] ty #[.slice (some ⟨w.heap.size, (i + 1) * 2, none⟩) (l.length - i) dc, .slice (some ⟨g, i * 2, none⟩) (l.length - i) sc]).run Try.prog W = .ok (goInt (l.length - i : Nat)) (W.setCells w.heap.size ((i + 1) * 2) (inner.drop (i * 2))) := fun W hW hF ty dc sc => by
  have := run_copy_k (P := Try.prog) W 36 36 ty 67 2 w.heap.size ((i + 1) * 2) (l.length - i) dc ⟨g, i * 2, none⟩ (l.length - i) sc (inner.drop (i * 2)) Try.underlying36 hsz (by rw [hdl]; simp)
   (fun j u hj => by
    rw [Addr.add_lit, hW, World.cell?_setCells_out _ _ _ _ _ (fun h _ => absurd h hgN)]
    exact hOb _ u (hcell _ u (by rwa [List.getElem?_drop] at hj)))
   (fun j hj => by rw [hW]; exact isSome_setCells _ _ _ _ (fun t ht => hN _ (by omega)) _ (hN _ (by omega)))
   (fun j hj => by rw [hF]; exact hNf _) (fun u hu => h1c u (List.mem_of_mem_drop hu))
  rw [this]
  congr 2
  simp
 have hw1 : IntKind.i64.wrap ((i : Int) + 1) = (i : Int) + 1 := by rw [IntKind.wrap_i64]; omega
 have hw2 : IntKind.i64.wrap ((l.length : Int) + 1) = (l.length : Int) + 1 := by rw [IntKind.wrap_i64]; omega
 have hw3 : IntKind.i64.wrap ((l.length : Int) + 1 - (i : Int)) = (l.length : Int) + 1 - (i : Int) := by rw [IntKind.wrap_i64]; omega
 have c1 : ∀ W : World, (Instr.slice 36 (.slice (some ⟨g, 0, none⟩) l.length cap) (some (.int .i64 (i : Int))) none none).run Try.prog W = .ok (.slice (some ⟨g, i * 2, none⟩) (l.length - i) (cap - i)) W := by
  intro W
  rw [cut_from (P := Try.prog) 36 67 .i64 Try.underlying36 hi0 2 hsz0 (some ⟨g, 0, none⟩) l.length cap (i : Int) (by omega) (by omega) W, Int.toNat_natCast, if_neg (by omega), Option.map_some, Addr.add_lit, Nat.zero_add]
 have c2 := cut_to (P := Try.prog) 36 67 .i64 Try.underlying36 hi0 (some ⟨g, 0, none⟩) l.length cap (i : Int) (by omega) (by omega) (by omega)
 rw [Int.toNat_natCast] at c2
 have c3 : ∀ W : World, (Instr.slice 36 (.slice (some ⟨w.heap.size, 0, none⟩) (l.length + 1) G) (some (.int .i64 (i : Int))) none none).run Try.prog W = .ok (.slice (some ⟨w.heap.size, i * 2, none⟩) (l.length + 1 - i) (G - i)) W := by
  intro W
  rw [cut_from (P := Try.prog) 36 67 .i64 Try.underlying36 hi0 2 hsz0 (some ⟨w.heap.size, 0, none⟩) (l.length + 1) G (i : Int) (by omega) (by omega) W, Int.toNat_natCast, if_neg (by omega), Option.map_some, Addr.add_lit, Nat.zero_add]
 have c4 : ∀ W : World, (Instr.slice 36 (.slice (some ⟨w.heap.size, 0, none⟩) (l.length + 1) G) (some (.int .i64 ((i : Int) + 1))) none none).run Try.prog W = .ok (.slice (some ⟨w.heap.size, (i + 1) * 2, none⟩) (l.length - i) (G - (i + 1))) W := by
  intro W
  rw [show ((i : Int) + 1) = ((i + 1 : Nat) : Int) by omega, cut_from (P := Try.prog) 36 67 .i64 Try.underlying36 hi0 2 hsz0 (some ⟨w.heap.size, 0, none⟩) (l.length + 1) G ((i + 1 : Nat) : Int) (by omega) (by omega) W, Int.toNat_natCast, if_neg (by omega), Option.map_some, Addr.add_lit, Nat.zero_add, show l.length + 1 - (i + 1) = l.length - i by omega]
 have hb1 : decide ((1 : Int) = 0) = false := rfl
 have hb2 : decide ((i : Int) = (l.length : Int)) = false := by simp; omega
 have hb3 : decide ((cap : Int) < (l.length : Int) + 1) = true := by simp; omega
 have ha := hcpA W1 (fun _ => rfl) (fun _ => rfl) 3 (G - i) 1
 have hb := hcpB ((W1.setCells w.heap.size (i * 2) cs).drew) (fun _ => rfl) (fun _ => World.frozen?_setCells _ _ _ _ _) 3 (G - (i + 1)) (cap - i)
 subst hW1
 have mixed : (Try.prog).follows .mixedOrders = true := rfl
 clear hcpA hcpB hOb hOv hN hNf hcell hvs h1c h1v hkk hik hdl hil hcl
 go_enter Try.func68, Try.ntmps68
 go_wp2_with (first
  | (at_builtin; refine Lib.wpList_append_run _ rfl _ _ _ _ rfl _ _ rfl rfl _ _ hrz ?_)
  | (at_builtin; refine wpList_copy_runI _ rfl _ _ 36 35 rfl _ _ rfl rfl ha ?_))
 go_region_law_o (refine step_copy_runI rfl _ _ 36 36 rfl (.slice (some ⟨w.heap.size, (i + 1) * 2, none⟩) (l.length - i) (G - (i + 1))) (.slice (some ⟨g, i * 2, none⟩) (l.length - i) (cap - i)) (by simp [Act.eval, Act.put]) (by simp [Act.eval, Act.put]) hb ?_)
 go_wp2
 go_ret
 exact ⟨_, rfl, HR.out.1, HR.out.2⟩
set_option maxHeartbeats 4000000 in
set_option maxRecDepth 100000 in
theorem vecs_insert_end (w : World) (base : Nat) (ok okp : Nat → Prop) (A : Option Addr) (cap : Nat) (l : List S67) (x : S67) (cs : List Value) (vb : Nat) (tv : TypeId)
  (hbase : base ≤ w.heap.size) (hfresh : ∀ k, w.heap.size ≤ k → ok k) (ho : Kd.R k67 67 w base ok (.slice A l.length cap) l)
  (hx : Kd.M k67 w base okp x cs) (hokp : ∀ k, okp k → ok k ∧ some k ≠ (Value.slice A l.length cap).ownBlock) (hv : w.heap[vb]? = some (.cells cs.toArray tv (0, 0))) (hbig : (l.length + 1) * 24 ≤ 140737488355328) :
  Calls Try.prog 68 #[.slice A l.length cap, .int .i64 (l.length : Int), .slice (some ⟨vb, 0, none⟩) 1 1] w fun e w' => ∃ v' : Value, e = .returned v' ∧ Kd.R k67 67 w' base ok v' (l ++ [x]) ∧ Below base w w' ∧ w.grownBy w' (Value.slice A l.length cap).ownBlock := by
 obtain ⟨i0, hi0, hz0, hsz0, hby0⟩ := info_parts info67
 have hcl : cs.length = 2 := (Kd.K_len k67 (Kd.K_of_M k67 hx))
 obtain ⟨v1, w1, hrun, hR1, hg1⟩ := R_append_one_run (P := Try.prog) k67 36 35 36 67 67 i0 _ 24 Try.underlying36 Try.underlying35 hi0 hz0 hsz0 hby0 rfl (by decide) (by decide) ho hx hokp hfresh (a := ⟨vb, 0, none⟩) (fun j u hj => by rw [Addr.add_lit, Nat.zero_add, blk_cell hv]; simpa using hj) 1 hbase hbig
 have hB : Below base w w1 := (Below.refl base w).grown hg1 hbase (Kd.R_base ho)
 obtain ⟨cc, hcut⟩ : ∃ cc : Option Addr, ∀ W : World, (Instr.slice 36 (.slice A l.length cap) (some (.int .i64 (l.length : Int))) none none).run Try.prog W = .ok (.slice cc (l.length - l.length) (cap - l.length)) W := by
  exact ⟨_, cut_from (P := Try.prog) 36 67 .i64 Try.underlying36 hi0 2 hsz0 A l.length cap (l.length : Int) (by omega) (by omega)⟩
 rw [Nat.sub_self] at hcut
 have hb1 : decide ((1 : Int) = 0) = false := rfl
 have HR := Aside0.mk hR1
 have HB := Aside0.mk hB
 have HG := Aside0.mk hg1
 have HN := Aside0.mk hrun
 clear ho hx hokp hv hcl hR1 hB hg1 hrun hz0 hi0
 go_enter Try.func68, Try.ntmps68
 go_wp2_with (at_builtin; refine Lib.wpList_append_run _ rfl _ _ _ _ rfl _ _ rfl rfl _ _ HN.out ?_)
 go_ret
 exact ⟨_, rfl, HR.out, HB.out, HG.out⟩
theorem vecs_insertk (w : World) (base : Nat) (ok okp : Nat → Prop) (v : Value) (l : List S67) (i : Nat) (x : S67) (cs : List Value) (vb : Nat) (tv : TypeId)
  (ho : Kd.R k67 67 w base ok v l) (hi : i ≤ l.length) (hbase : base ≤ w.heap.size) (hfresh : ∀ k, w.heap.size ≤ k → ok k) (hx : Kd.M k67 w base okp x cs) (hokp : ∀ k, okp k → ok k ∧ some k ≠ v.ownBlock) (hv : w.heap[vb]? = some (.cells cs.toArray tv (0, 0))) (hvb : some vb ≠ v.ownBlock) (hbig : (l.length + 1) * 24 ≤ 140737488355328) :
  Calls Try.prog 68 #[v, .int .i64 i, .slice (some ⟨vb, 0, none⟩) 1 1] w fun e w' => ∃ v' : Value, e = .returned v' ∧ Kd.R k67 67 w' base ok v' (l.take i ++ x :: l.drop i) ∧ Below base w w' ∧ ∀ k, k < w.heap.size → some k ≠ v.ownBlock → w'.heap[k]? = w.heap[k]? := by
 by_cases he : i = l.length
 ·obtain ⟨A, c, rfl⟩ := Kd.R_slice ho
  subst he
  rw [List.take_of_length_le (Nat.le_refl _), List.drop_of_length_le (Nat.le_refl _)]
  refine (vecs_insert_end w base ok okp A c l x cs vb tv hbase hfresh ho hx hokp hv hbig).mono ?_
  rintro e w' ⟨v', rfl, hR, hB, hG⟩
  exact ⟨v', rfl, hR, hB, fun k hk hne => hG.block k hk hne⟩
 ·have hlt : i < l.length := by omega
  obtain ⟨g, cap, cur, rfl, hg, hk, hh, h2, h3, h4, hp⟩ := R_open ho (fun e => by rw [e] at hlt; simp at hlt)
  have hokp' : ∀ k, okp k → ok k ∧ k ≠ g := fun k hk => ⟨(hokp k hk).1, fun e => (hokp k hk).2 (by rw [e]; rfl)⟩
  have hvb' : vb ≠ g := fun e => hvb (by rw [e]; rfl)
  by_cases hc : l.length + 1 ≤ cap
  ·refine (vecs_insert_room w base ok okp g cap cur l i x cs vb tv hg hk hh hc h3 h4 hp hlt hx hokp' hv hvb').mono ?_
   rintro e w' ⟨v', rfl, hR, hG⟩
   exact ⟨v', rfl, hR, (Below.refl base w).grown hG hbase (fun k e => by injection e with e; omega), fun k hk hne => hG.block k hk hne⟩
  ·refine (vecs_insert_grow w base ok okp g cap cur l i x cs vb tv hbase hfresh hh h2 (by omega) h4 hp hlt hx hokp' hv hvb' hbig).mono ?_
   rintro e w' ⟨v', rfl, hR, hG⟩
   exact ⟨v', rfl, hR, (Below.refl base w).grown hG hbase (fun k e => by cases e), fun k hk _ => hG.block k hk (by simp)⟩
theorem vecs_insert (w : World) (base : Nat) (ok okp : Nat → Prop) (v : Value) (l : List S67) (i : Nat) (x : S67) (cs : List Value) (vb : Nat) (tv : TypeId)
  (ho : Kd.R k67 67 w base ok v l) (hi : i ≤ l.length) (hbase : base ≤ w.heap.size) (hfresh : ∀ k, w.heap.size ≤ k → ok k) (hx : Kd.M k67 w base okp x cs) (hokp : ∀ k, okp k → ok k ∧ some k ≠ v.ownBlock) (hv : w.heap[vb]? = some (.cells cs.toArray tv (0, 0))) (hvb : some vb ≠ v.ownBlock) (hbig : (l.length + 1) * 24 ≤ 140737488355328) :
  Calls Try.prog 68 #[v, .int .i64 i, .slice (some ⟨vb, 0, none⟩) 1 1] w fun e w' => ∃ v' : Value, e = .returned v' ∧ Kd.R k67 67 w' base ok v' (l.take i ++ x :: l.drop i) ∧ Below base w w' :=
 (vecs_insertk w base ok okp v l i x cs vb tv ho hi hbase hfresh hx hokp hv hvb hbig).mono fun e w' h => by
  obtain ⟨v', h1, h2, h3, -⟩ := h
  exact ⟨v', h1, h2, h3⟩

def vec_Set.v (l0 : List S67) (a1 : ByteArray) (a2 : Int) : List S67 :=
 if rightB a1 = true ∧ 1 ≤ a2 then
  (if bsB (fun i => cmpB (l0.getD i z67).f0 a1) l0.length = true
   then l0.set (bsN (fun i => cmpB (l0.getD i z67).f0 a1) l0.length) ⟨(l0.getD (bsN (fun i => cmpB (l0.getD i z67).f0 a1) l0.length) z67).f0, mx (l0.getD (bsN (fun i => cmpB (l0.getD i z67).f0 a1) l0.length) z67).f1 (mn a2 1048576)⟩
   else l0.take (bsN (fun i => cmpB (l0.getD i z67).f0 a1) l0.length) ++ ⟨a1, mn a2 1048576⟩ :: l0.drop (bsN (fun i => cmpB (l0.getD i z67).f0 a1) l0.length))
 else l0
def vec_Set.f (l0 : List S67) (a1 : ByteArray) (a2 : Int) : Option (List S67) := if l0.length < 1000000000 then some (vec_Set.v l0 a1 a2) else none
set_option maxHeartbeats 1600000 in
set_option maxRecDepth 100000 in
theorem vec_Set.calls (A0 : Option Addr) (c0 : Nat) (l0 : List S67) (a1 : ByteArray) (a2 : Int) (r : List S67) (w : World) (hr0 : Kd.C k67 w A0 l0.length l0) (hc0 : l0.length ≤ c0) (h : vec_Set.f l0 a1 a2 = some r) :
  Calls Try.prog 53 #[.slice A0 l0.length c0, .string a1, .int .i64 a2] w fun e w' => ∃ v0_ : Value, e = .returned (v0_) ∧ Kd.R k67 67 w' w.heap.size (fun _ => True) v0_ r ∧ Below w.heap.size w w' := by
 --WALK
 have hlim : l0.length < 1000000000 := by
  by_cases hx : l0.length < 1000000000
  ·exact hx
  ·rw [vec_Set.f, if_neg hx] at h; cases h
 have hr : vec_Set.v l0 a1 a2 = r := by rw [vec_Set.f, if_pos hlim] at h; exact Option.some.inj h
 have HCL := Aside0.mk (vec_At_50.calls A0 c0 l0 l0 w hr0 hc0 (by simp only [vec_At_50.f, Option.bind_some, List.length_nil, List.nil_append]; rw [if_pos (by omega)]))
 have HLIM := Aside0.mk hlim
 obtain ⟨i, hi⟩ : ∃ i : Nat, bsN (fun i => cmpB (l0.getD i z67).f0 a1) l0.length = i := ⟨_, rfl⟩
 obtain ⟨b, hbb⟩ : ∃ b : Bool, bsB (fun i => cmpB (l0.getD i z67).f0 a1) l0.length = b := ⟨_, rfl⟩
 have hile : i ≤ l0.length := by rw [← hi]; exact bsI_le _ _ _ _ (Nat.zero_le _)
 have hilt : b = true → i < l0.length := fun h => by
  rw [h] at hbb
  unfold bsB at hbb
  rw [Bool.and_eq_true, decide_eq_true_eq] at hbb
  rw [← hi]; exact hbb.1
 have hfind : vec_find.f l0 a1 = some ((i : Int), b) := by rw [vec_find.f, if_pos (by omega), hi, hbb]
 have hval : rightB a1 = true → ¬ a2 < 1 → r = if b = true then l0.set i ⟨(l0.getD i z67).f0, mx (l0.getD i z67).f1 (mn a2 1048576)⟩ else l0.take i ++ ⟨a1, mn a2 1048576⟩ :: l0.drop i := fun h1 h2 => by
  rw [← hr, vec_Set.v, if_pos ⟨h1, by omega⟩, hi, hbb]
 have HV := Aside0.mk hr
 have HVAL := Aside0.mk hval
 have HFIND := Aside0.mk hfind
 have HLE := Aside0.mk hile
 have HLT := Aside0.mk hilt
 clear hr h hlim hr0 hc0 hi hbb hfind hval hile hilt
 go_enter Try.func53, Try.ntmps53
 go_wp2_with fail
 refine HCL.out.mono ?_
 rintro e w1 ⟨v1, rfl, ho1, hb1⟩
 obtain ⟨A1, c1, rfl, hc1, hr1⟩ := Kd.R_reads ho1
 have HO := Aside0.mk ho1
 have HB := Aside0.mk hb1
 have HC1 := Aside0.mk hc1
 clear ho1 hb1 hc1 hr1 HCL
 go_wp2_with fail
 refine (id_Right.calls a1 (rightB a1) w1 rfl).mono ?_
 rintro e w2 ⟨rfl, hb2⟩
 replace HO := Aside0.mk (Kd.R_below HO.out hb2)
 replace HB := Aside0.mk (below_then HB.out HB.out.size hb2)
 clear hb2
 by_cases hR : rightB a1 = true
 ·have HRR := Aside0.mk hR
  by_cases hn : a2 < 1
  ·have hv : r = l0 := by rw [← HV.out, vec_Set.v, if_neg (by omega)]
   have HR := Aside0.mk hv
   have hnb : decide (a2 < 1) = true := decide_eq_true hn
   generalize rightB a1 = b1 at hR
   subst hR
   clear hn hv
   go_wp2_with fail
   go_ret
   exact ⟨_, rfl, by rw [HR.out]; exact HO.out, HB.out⟩
  ·have hnb : decide (a2 < 1) = false := decide_eq_false hn
   have hv := HVAL.out hR (by omega)
   have HR := Aside0.mk hv
   generalize rightB a1 = b1 at hR
   subst hR
   clear hn hv
   by_cases hq : (1048576 : Int) < a2
   ·have HM := Aside0.mk (show mn a2 1048576 = 1048576 from if_pos hq)
    have hqb := eq_true hq
    clear hq
    go_wp2_with fail
    refine (vec_find.calls A1 c1 l0 a1 (i : Int) b w2 (Kd.R_reads' HO.out).2.2 HC1.out HFIND.out).mono ?_
    rintro e w3 ⟨rfl, hb3⟩
    replace HO := Aside0.mk (Kd.R_below HO.out hb3)
    replace HB := Aside0.mk (below_then HB.out HB.out.size hb3)
    clear hb3
    cases b with
    | false =>
     go_wp2_with fail
     refine (vecs_insert _ w.heap.size (fun _ => True) (fun _ => False) (.slice A1 l0.length c1) l0 i ⟨a1, 1048576⟩ [.string a1, .int .i64 1048576] w3.heap.size _ (Kd.R_below HO.out (below_alloc (Below.refl _ _) _)) HLE.out ?_ (fun _ _ => trivial) (k67_mkM _ _ _ ⟨a1, 1048576⟩) (fun _ h => h.elim) (blk_new w3 _) ?_ (by have := HLIM.out; omega)).mono ?_
     ·exact Nat.le_trans (below_size HB.out) (by simp)
     ·intro e; have := Kd.R_lt HO.out _ e.symm; omega
     rintro e w4 ⟨v4, rfl, hR4, hB4⟩
     have HO4 := Aside0.mk hR4
     have HB4 := Aside0.mk ((below_alloc HB.out _).trans hB4)
     clear hR4 hB4
     go_wp2_with fail
     go_ret
     exact ⟨_, rfl, by rw [HR.out, if_neg (by simp), HM.out]; exact HO4.out, HB4.out⟩
    | true =>
     have hlt := HLT.out rfl
     obtain ⟨g, cap, cur, ev, hg, _, hh, _, _, hcs, hp⟩ := R_open HO.out (fun e => by rw [e] at hlt; simp at hlt)
     injection ev with eA _ ec
     subst eA; subst ec
     have pm := eq_true (show (0 : Int) ≤ (i : Int) by omega)
     have qm := eq_true (show (i : Int) < (l0.length : Int) by omega)
     obtain ⟨ad, hA, hx0, hx1⟩ := at_T67 (Kd.R_reads' HO.out).2.2 (i : Int) (by omega) (by omega)
     injection hA with hA
     subst hA
     have hn1 : rd_T67 l0 (i : Int) = l0.getD i z67 := rfl
     rw [hn1] at hx0 hx1
     generalize hel : l0.getD i z67 = el at hx0 hx1 HR
     have hy0 : w3.cell? ⟨g, i * 2, none⟩ = some (.string el.f0) := by rw [← hx0, Int.toNat_natCast, Addr.add_lit, Nat.zero_add]
     have hy1 : w3.cell? ⟨g, i * 2 + 1, none⟩ = some (.int .i64 el.f1) := by rw [← hx1, Int.toNat_natCast, Addr.add_lit, Nat.zero_add]
     have hz1 : w3.frozen? ⟨g, i * 2 + 1, none⟩ = false := blk_frozen hh _
     have hset : ∀ m : Int, Kd.R k67 67 (w3.setCell ⟨g, i * 2 + 1, none⟩ (.int .i64 m)) w.heap.size (fun _ => True) (.slice (some ⟨g, 0, none⟩) l0.length c1) (l0.set i ⟨el.f0, m⟩) ∧ Below w.heap.size w (w3.setCell ⟨g, i * 2 + 1, none⟩ (.int .i64 m)) := fun m => by
      have h := (Kd.R_seg (d := k67) (W := w3) (okp := fun _ => False) HO.out (i : Int) (by omega) (by omega) (c := [.string el.f0, .int .i64 el.f1]) (seg := [.int .i64 m]) (j := 1) rfl (fun j u hj => by
       rcases j with _ | _ | j
       ·cases hj; rw [Int.toNat_natCast]; exact hy0
       ·cases hj; rw [Int.toNat_natCast]; exact hy1
       ·cases hj) (show 1 + 1 ≤ 2 by decide) (x' := ⟨el.f0, m⟩) (k67_mkM _ _ _ ⟨el.f0, m⟩) (fun _ h => h.elim)).1
      exact ⟨h, below_set HB.out hg⟩
     have HS := Aside0.mk hset
     clear hset hx0 hx1 hp hcs hg hel
     by_cases hmx : el.f1 < 1048576
     ·have hmb := eq_true hmx
      have HX := Aside0.mk (show mx el.f1 1048576 = 1048576 from if_pos hmx)
      clear hmx
      go_wp2_with fail
      go_ret
      exact ⟨_, rfl, by have h_ := HR.out; (first | rw [if_pos rfl] at h_ | skip); rw [HM.out, HX.out] at h_; rw [h_]; exact (HS.out _).1, (HS.out _).2⟩
     ·have hmb := eq_false hmx
      have HX := Aside0.mk (show mx el.f1 1048576 = el.f1 from if_neg hmx)
      clear hmx
      go_wp2_with fail
      go_ret
      exact ⟨_, rfl, by have h_ := HR.out; (first | rw [if_pos rfl] at h_ | skip); rw [HM.out, HX.out] at h_; rw [h_]; exact (HS.out _).1, (HS.out _).2⟩
   ·have HM := Aside0.mk (show mn a2 1048576 = a2 from if_neg hq)
    have hqb := eq_false hq
    clear hq
    go_wp2_with fail
    refine (vec_find.calls A1 c1 l0 a1 (i : Int) b w2 (Kd.R_reads' HO.out).2.2 HC1.out HFIND.out).mono ?_
    rintro e w3 ⟨rfl, hb3⟩
    replace HO := Aside0.mk (Kd.R_below HO.out hb3)
    replace HB := Aside0.mk (below_then HB.out HB.out.size hb3)
    clear hb3
    cases b with
    | false =>
     go_wp2_with fail
     refine (vecs_insert _ w.heap.size (fun _ => True) (fun _ => False) (.slice A1 l0.length c1) l0 i ⟨a1, a2⟩ [.string a1, .int .i64 a2] w3.heap.size _ (Kd.R_below HO.out (below_alloc (Below.refl _ _) _)) HLE.out ?_ (fun _ _ => trivial) (k67_mkM _ _ _ ⟨a1, a2⟩) (fun _ h => h.elim) (blk_new w3 _) ?_ (by have := HLIM.out; omega)).mono ?_
     ·exact Nat.le_trans (below_size HB.out) (by simp)
     ·intro e; have := Kd.R_lt HO.out _ e.symm; omega
     rintro e w4 ⟨v4, rfl, hR4, hB4⟩
     have HO4 := Aside0.mk hR4
     have HB4 := Aside0.mk ((below_alloc HB.out _).trans hB4)
     clear hR4 hB4
     go_wp2_with fail
     go_ret
     exact ⟨_, rfl, by rw [HR.out, if_neg (by simp), HM.out]; exact HO4.out, HB4.out⟩
    | true =>
     have hlt := HLT.out rfl
     obtain ⟨g, cap, cur, ev, hg, _, hh, _, _, hcs, hp⟩ := R_open HO.out (fun e => by rw [e] at hlt; simp at hlt)
     injection ev with eA _ ec
     subst eA; subst ec
     have pm := eq_true (show (0 : Int) ≤ (i : Int) by omega)
     have qm := eq_true (show (i : Int) < (l0.length : Int) by omega)
     obtain ⟨ad, hA, hx0, hx1⟩ := at_T67 (Kd.R_reads' HO.out).2.2 (i : Int) (by omega) (by omega)
     injection hA with hA
     subst hA
     have hn1 : rd_T67 l0 (i : Int) = l0.getD i z67 := rfl
     rw [hn1] at hx0 hx1
     generalize hel : l0.getD i z67 = el at hx0 hx1 HR
     have hy0 : w3.cell? ⟨g, i * 2, none⟩ = some (.string el.f0) := by rw [← hx0, Int.toNat_natCast, Addr.add_lit, Nat.zero_add]
     have hy1 : w3.cell? ⟨g, i * 2 + 1, none⟩ = some (.int .i64 el.f1) := by rw [← hx1, Int.toNat_natCast, Addr.add_lit, Nat.zero_add]
     have hz1 : w3.frozen? ⟨g, i * 2 + 1, none⟩ = false := blk_frozen hh _
     have hset : ∀ m : Int, Kd.R k67 67 (w3.setCell ⟨g, i * 2 + 1, none⟩ (.int .i64 m)) w.heap.size (fun _ => True) (.slice (some ⟨g, 0, none⟩) l0.length c1) (l0.set i ⟨el.f0, m⟩) ∧ Below w.heap.size w (w3.setCell ⟨g, i * 2 + 1, none⟩ (.int .i64 m)) := fun m => by
      have h := (Kd.R_seg (d := k67) (W := w3) (okp := fun _ => False) HO.out (i : Int) (by omega) (by omega) (c := [.string el.f0, .int .i64 el.f1]) (seg := [.int .i64 m]) (j := 1) rfl (fun j u hj => by
       rcases j with _ | _ | j
       ·cases hj; rw [Int.toNat_natCast]; exact hy0
       ·cases hj; rw [Int.toNat_natCast]; exact hy1
       ·cases hj) (show 1 + 1 ≤ 2 by decide) (x' := ⟨el.f0, m⟩) (k67_mkM _ _ _ ⟨el.f0, m⟩) (fun _ h => h.elim)).1
      exact ⟨h, below_set HB.out hg⟩
     have HS := Aside0.mk hset
     clear hset hx0 hx1 hp hcs hg hel
     by_cases hmx : el.f1 < a2
     ·have hmb := eq_true hmx
      have HX := Aside0.mk (show mx el.f1 a2 = a2 from if_pos hmx)
      clear hmx
      go_wp2_with fail
      go_ret
      exact ⟨_, rfl, by have h_ := HR.out; (first | rw [if_pos rfl] at h_ | skip); rw [HM.out, HX.out] at h_; rw [h_]; exact (HS.out _).1, (HS.out _).2⟩
     ·have hmb := eq_false hmx
      have HX := Aside0.mk (show mx el.f1 a2 = el.f1 from if_neg hmx)
      clear hmx
      go_wp2_with fail
      go_ret
      exact ⟨_, rfl, by have h_ := HR.out; (first | rw [if_pos rfl] at h_ | skip); rw [HM.out, HX.out] at h_; rw [h_]; exact (HS.out _).1, (HS.out _).2⟩
 ·have hv : r = l0 := by rw [← HV.out, vec_Set.v, if_neg (fun h => hR h.1)]
  have HR := Aside0.mk hv
  have hR' : rightB a1 = false := by simpa using hR
  clear hR
  generalize rightB a1 = b1 at hR'
  subst hR'
  clear hv
  go_wp2_with fail
  go_ret
  exact ⟨_, rfl, by rw [HR.out]; exact HO.out, HB.out⟩

end Go.Proofs.Ytoodahceejdbcaa.P
