-- Written by a program of this session (wip/pp.py over the kit's printer, with our own texts put in).
import Derived.Test.YtkfehkaiifjkmaaP0
import Derived.Test.YtkfehkaiifjkmaaP5
namespace Go.Proofs.Ytkfehkaiifjkmaa.P
open Go.RowKit Go.Proofs.YtkfehkaiifjkmaaW.PrintWords Go.Proofs.YtkfehkaiifjkmaaW.PrintLast Go.Proofs.YtkfehkaiifjkmaaW.PrintMore
attribute [local go_sem] max2_int min2_int max_two min_two max_three min_three max_four min_four   -- for this text's walks alone
set_option linter.unusedVariables false
set_option linter.unusedSimpArgs false

/-! ### cenotaphref02_Fix: function 45 -/
theorem zq45_0 {p_ : Prop} (h_ : p_ := by repeat (first | (with_reducible first | exact HB.out | apply below_alloc | apply pw_below_drewN | apply below_drew1 | refine below_set ?_ GE296.out | refine below_set ?_ GE297.out) | exact HB.out)) : p_ := h_
theorem zq45_1 {p_ : Prop} (h_ : p_ := by repeat (first | (with_reducible first | exact HB.out | apply below_alloc | apply pw_below_drewN | apply below_drew1 | refine below_set ?_ GE296.out) | exact HB.out)) : p_ := h_
theorem zq45_2 {p_ : Prop} (h_ : p_ := by repeat (first | (with_reducible first | exact HB.out | apply below_alloc | apply pw_below_drewN | apply below_drew1) | exact HB.out)) : p_ := h_
theorem zq45_3 {p_ : Prop} (h_ : p_ := by (with_reducible repeat (first | refine blk_drewN ?_ _ | refine blk_drew ?_ | refine blk_alloc ?_ _)); exact BK296.out) : p_ := h_
theorem zq45_4 {p_ : Prop} (h_ : p_ := by (with_reducible repeat (first | refine blk_drewN ?_ _ | refine blk_drew ?_ | refine blk_alloc ?_ _)); exact BK297.out) : p_ := h_
def cenotaphref02_Fix.l0 : Nat → Int → Int → List Int → Int → List Int → Option (Int × List Int)
 | 0, _, _, _, _, _ => none
 | k + 1, x4, x297000, x297001, x299000, x299001 => if x4 < (x297001.length : Int) then (if x4 < 30 then (if 0 ≤ x4 then ((cenotaphref02_Add.f k x299000 x299001 (wrap64 (1 + (wrap64 (Int.tmod (IntKind.u64.wrap (rd x297001 x4)) 60))))).bind fun bt300 => (cenotaphref02_Fix.l0 k (wrap64 (x4 + 1)) x297000 x297001 bt300.1 bt300.2)) else (none)) else (some (x299000, x299001))) else (some (x299000, x299001))
def cenotaphref02_Fix.f (k : Nat) (a0_0 : Int) (l0_1 : List Int) : Option (Int × List Int) := cenotaphref02_Fix.l0 k 0 a0_0 l0_1 (wrap64 (Int.tmod (IntKind.u64.wrap (a0_0)) 40)) ([] : List Int)
theorem cenotaphref02_Fix.mono_l : ∀ k, (∀ y0 y1 y2 y3 y4, LeO (cenotaphref02_Fix.l0 k y0 y1 y2 y3 y4) (cenotaphref02_Fix.l0 (k + 1) y0 y1 y2 y3 y4))
 | 0 => fun _ _ _ _ _ r h => by simp [cenotaphref02_Fix.l0] at h
 | k + 1 => by
  have ih0 := cenotaphref02_Fix.mono_l k
  ·intro y0 y1 y2 y3 y4
   unfold cenotaphref02_Fix.l0
   repeat' first
   | (with_reducible exact ih0 _ _ _ _ _)
   | (with_reducible exact cenotaphref02_Add.mono _ _ _ _)
   | (with_reducible exact LeO.refl _)
   | (with_reducible exact LeO.none _)
   | (with_reducible refine LeO.ite ?_ ?_)
   | (with_reducible refine LeO.bind ?_ (fun _ => ?_))
   | exact ih0 _ _ _ _ _
   | exact cenotaphref02_Add.mono _ _ _ _
   | exact LeO.none _
   | refine LeO.ite ?_ ?_
   | refine LeO.bind ?_ (fun _ => ?_)
theorem cenotaphref02_Fix.mono : ∀ a0 a1 k, LeO (cenotaphref02_Fix.f k a0 a1) (cenotaphref02_Fix.f (k + 1) a0 a1) := by
 intro a0 a1 k
 have ih0 := cenotaphref02_Fix.mono_l k
 unfold cenotaphref02_Fix.f
 repeat' first
   | (with_reducible exact ih0 _ _ _ _ _)
   | (with_reducible exact cenotaphref02_Add.mono _ _ _ _)
   | (with_reducible exact LeO.refl _)
   | (with_reducible exact LeO.none _)
   | (with_reducible refine LeO.ite ?_ ?_)
   | (with_reducible refine LeO.bind ?_ (fun _ => ?_))
   | exact ih0 _ _ _ _ _
   | exact cenotaphref02_Add.mono _ _ _ _
   | exact LeO.none _
   | refine LeO.ite ?_ ?_
   | refine LeO.bind ?_ (fun _ => ?_)
def cenotaphref02_Fix.T5 : Bool × List (List Nat × List Nat) := (true, [([], []), ([], []), ([1], [1]), ([], []), ([2, 3], [2, 3]), ([4], [4]), ([5], [5]), ([6], [6]), ([7], [7]), ([8], [8]), ([0, 9], [0, 9]), ([10, 10, 0, 1, 2, 3, 4, 5, 6, 7, 8, 9, 10], [10])])
def cenotaphref02_Fix.B5 : List Nat := [0, 0, 2, 0, 14, 30, 62, 126, 254, 510, 1023, 2047]
theorem cenotaphref02_Fix.tab5 : rtab .any (opsOf Try.f45 5) = cenotaphref02_Fix.T5 := by kernel_rfl
theorem cenotaphref02_Fix.bits5 : waitsOk cenotaphref02_Fix.T5.2 cenotaphref02_Fix.B5 = true := by kernel_rfl
set_option maxHeartbeats 8000000 in
set_option maxRecDepth 100000 in
theorem cenotaphref02_Fix.calls (k : Nat) (a0_0 : Int) (A0_1 : Option Addr) (c0_1 : Nat) (l0_1 : List Int) (r1 : Int) (r2 : List Int) (w : World) (hr0_1 : Kd.C (Kd.int .i64) w A0_1 l0_1.length l0_1) (hc0_1 : l0_1.length ≤ c0_1) (h : cenotaphref02_Fix.f k a0_0 l0_1 = some (r1, r2)) :
  Calls Try.prog 45 #[.agg #[.int .i64 a0_0, .slice A0_1 l0_1.length c0_1]] w fun e w' => ∃ v1_ : Value, e = .returned (.agg #[.int .i64 r1, v1_]) ∧ Kd.R (Kd.int .i64) 3 w' w.heap.size (fun _ => True) v1_ r2 ∧ Below w.heap.size w w' := by
 have hu25 := Try.underlying25
 have HR0_1 := Aside0.mk hr0_1
 have HC0_1 := Aside0.mk hc0_1
 clear hr0_1 hc0_1
 have HB := Aside0.mk (Below.refl w.heap.size w)
 have H : (cenotaphref02_Fix.l0 k 0 a0_0 l0_1 (wrap64 (Int.tmod (IntKind.u64.wrap (a0_0)) 40)) ([] : List Int)) = some (r1, r2) := h
 clear h
 have H' := Aside0.mk H
 clear H
 go_enter Try.func45, Try.ntmps45
 go_wp2_with (first | ((with_reducible refine gate_dst (N := 1) rfl ?_); refine box_event ?hg (N := 1) ?hd (cs := #[.int .i64 a0_0, .slice A0_1 l0_1.length c0_1]) (t := 25) ?hr ?_; (case hd => rfl); (case hg => rfl); (case hr => first | (go_simp; done) | (go_simp; rfl)); intro gb296 hg w2 hbox hb; have BK296 := Aside0.mk (hbox); have GW296 := Aside0.mk (((by rw [hg]; exact (below_size zq45_2)) : w.heap.size ≤ gb296)); have GE296 := Aside0.mk (((by rw [hg]; exact (below_size zq45_2)) : w.heap.size ≤ gb296)); replace HB := Aside0.mk (below_step zq45_2 hb); clear hb hbox hg) | ((with_reducible refine gate_dst (N := 2) rfl ?_); refine box_event ?hg (N := 2) ?hd (cs := #[.int .i64 0, .slice none 0 0]) (t := 25) ?hr ?_; (case hd => rfl); (case hg => rfl); (case hr => first | (go_simp; done) | (go_simp; rfl)); intro gb297 hg w3 hbox hb; have BK297 := Aside0.mk (hbox); have GW297 := Aside0.mk (((by rw [hg]; exact (below_size zq45_1)) : w.heap.size ≤ gb297)); have GE297 := Aside0.mk (((by rw [hg]; exact (below_size zq45_1)) : w.heap.size ≤ gb297)); replace HB := Aside0.mk (below_step zq45_1 hb); have NB296_297 := Aside0.mk (((by rw [hg]; exact Nat.ne_of_lt (blk_lt (g := gb296) (o := .cells #[.int .i64 a0_0, .slice A0_1 l0_1.length c0_1] 25 (0, 0)) zq45_3)) : gb296 ≠ gb297)); have NB297_296 := Aside0.mk (((by rw [hg]; exact Nat.ne_of_gt (blk_lt (g := gb296) (o := .cells #[.int .i64 a0_0, .slice A0_1 l0_1.length c0_1] 25 (0, 0)) zq45_3)) : gb297 ≠ gb296)); replace BK296 := Aside0.mk (blk_below (g := gb296) (o := .cells #[.int .i64 a0_0, .slice A0_1 l0_1.length c0_1] 25 (0, 0)) zq45_3 hb); clear hb hbox hg; have hnb4 := NB296_297.out; have hnc4 := NB297_296.out; have hcz5_0 : w3.cell? ⟨gb296, 0, none⟩ = some (.int .i64 a0_0) := (blk_cell BK296.out 0).trans rfl; have hcz5_1 : w3.cell? ⟨gb296, 1, none⟩ = some (.slice A0_1 l0_1.length c0_1) := (blk_cell BK296.out 1).trans rfl; have hfz5_0 := blk_frozen BK296.out 0; have hfz5_1 := blk_frozen BK296.out 1) | ((with_reducible refine gate_dst (N := 3) rfl ?_); refine box_event ?hg (N := 3) ?hd (cs := #[.int .i64 0, .slice none 0 0]) (t := 25) ?hr ?_; (case hd => rfl); (case hg => rfl); (case hr => first | (go_simp; done) | (go_simp; rfl)); intro gb298 hg w6 hbox hb; have BK298 := Aside0.mk (hbox); have GW298 := Aside0.mk (((by rw [hg]; exact (below_size zq45_0)) : w.heap.size ≤ gb298)); have GE298 := Aside0.mk (((by rw [hg]; exact (below_size zq45_0)) : w.heap.size ≤ gb298)); replace HB := Aside0.mk (below_step zq45_0 hb); have NB296_298 := Aside0.mk (((by rw [hg]; exact Nat.ne_of_lt (blk_lt (g := gb296) (o := .cells #[.int .i64 a0_0, .slice A0_1 l0_1.length c0_1] 25 (0, 0)) zq45_3)) : gb296 ≠ gb298)); have NB298_296 := Aside0.mk (((by rw [hg]; exact Nat.ne_of_gt (blk_lt (g := gb296) (o := .cells #[.int .i64 a0_0, .slice A0_1 l0_1.length c0_1] 25 (0, 0)) zq45_3)) : gb298 ≠ gb296)); replace BK296 := Aside0.mk (blk_below (g := gb296) (o := .cells #[.int .i64 a0_0, .slice A0_1 l0_1.length c0_1] 25 (0, 0)) zq45_3 hb); have NB297_298 := Aside0.mk (((by rw [hg]; exact Nat.ne_of_lt (blk_lt (g := gb297) (o := .cells #[.int .i64 0, .slice none 0 0] 25 (0, 0)) zq45_4)) : gb297 ≠ gb298)); have NB298_297 := Aside0.mk (((by rw [hg]; exact Nat.ne_of_gt (blk_lt (g := gb297) (o := .cells #[.int .i64 0, .slice none 0 0] 25 (0, 0)) zq45_4)) : gb298 ≠ gb297)); replace BK297 := Aside0.mk (blk_below (g := gb297) (o := .cells #[.int .i64 0, .slice none 0 0] 25 (0, 0)) zq45_4 hb); clear hb hbox hg; have hnb7 := NB298_296.out; have hnc7 := NB296_298.out; have hnb8 := NB298_297.out; have hnc8 := NB297_298.out; have hcz9_0 : w6.cell? ⟨gb298, 0, none⟩ = some (.int .i64 0) := (blk_cell BK298.out 0).trans rfl; have hcz9_1 : w6.cell? ⟨gb298, 1, none⟩ = some (.slice none 0 0) := (blk_cell BK298.out 1).trans rfl; have hfz9_0 := blk_frozen BK298.out 0; have hfz9_1 := blk_frozen BK298.out 1))
 go_loopg [4] k (fun kq v4 w' => ∃ (x4_1 : Int) (x299000_1 : Int) (x299001_1 : List Int) (u299001 : Value), v4 = .int .i64 x4_1 ∧ Aside0 (cenotaphref02_Fix.l0 kq x4_1 a0_0 l0_1 x299000_1 x299001_1 = some (r1, r2)) ∧ Aside0 (kq ≤ k) ∧ Aside0 (Kd.R (Kd.int .i64) 3 w' w.heap.size (fun _ => True) u299001 x299001_1) ∧ Aside0 (w'.heap[gb296]? = some (.cells #[.int .i64 a0_0, (.slice A0_1 l0_1.length c0_1)] 25 (0, 0))) ∧ Aside0 (w'.heap[gb297]? = some (.cells #[.int .i64 0, (.slice none 0 0)] 25 (0, 0))) ∧ Aside0 (w'.heap[gb298]? = some (.cells #[.int .i64 x299000_1, u299001] 25 (0, 0))) ∧ Aside0 (Below w.heap.size w w'))
 case atStart => exact ⟨(0), (wrap64 (Int.tmod (IntKind.u64.wrap (a0_0)) 40)), (([] : List Int)), (.slice none 0 0), (by first | rfl | (simp; done) | (simp [*]; done)), H', ⟨Nat.le_refl _⟩, ⟨by first | exact Kd.R_nil _ _ _ _ _ | exact Kd.N_nil _ _ _ _ _ | exact Kd.V_nil _ _ _ _ _ | exact Kd.Q_nil _ _ _ _ _ | exact Kd.S_nil _ _ _ _ _⟩, ⟨by (with_reducible repeat (first | refine blk_drewN ?_ _ | refine blk_drew ?_ | refine blk_alloc ?_ _)); refine blk_far ?_ NB296_298.out _; (with_reducible repeat (first | refine blk_drewN ?_ _ | refine blk_drew ?_ | refine blk_alloc ?_ _)); refine blk_far ?_ NB296_298.out _; (with_reducible repeat (first | refine blk_drewN ?_ _ | refine blk_drew ?_ | refine blk_alloc ?_ _)); exact BK296.out⟩, ⟨by (with_reducible repeat (first | refine blk_drewN ?_ _ | refine blk_drew ?_ | refine blk_alloc ?_ _)); refine blk_far ?_ NB297_298.out _; (with_reducible repeat (first | refine blk_drewN ?_ _ | refine blk_drew ?_ | refine blk_alloc ?_ _)); refine blk_far ?_ NB297_298.out _; (with_reducible repeat (first | refine blk_drewN ?_ _ | refine blk_drew ?_ | refine blk_alloc ?_ _)); exact BK297.out⟩, ⟨by (with_reducible repeat (first | refine blk_drewN ?_ _ | refine blk_drew ?_ | refine blk_alloc ?_ _)); refine blk_put (cs := #[.int .i64 (wrap64 (Int.tmod (IntKind.u64.wrap (a0_0)) 40)), .slice none 0 0]) ?_ 1 _ rfl; (with_reducible repeat (first | refine blk_drewN ?_ _ | refine blk_drew ?_ | refine blk_alloc ?_ _)); refine blk_put (cs := #[.int .i64 0, .slice none 0 0]) ?_ 0 _ rfl; (with_reducible repeat (first | refine blk_drewN ?_ _ | refine blk_drew ?_ | refine blk_alloc ?_ _)); exact BK298.out⟩, ⟨by repeat (first | (with_reducible first | exact HB.out | apply below_alloc | apply pw_below_drewN | apply below_drew1 | refine below_set ?_ GE296.out | refine below_set ?_ GE297.out | refine below_set ?_ GE298.out) | exact HB.out)⟩⟩
 case round =>
  clear H'
  try clear p2
  try clear c4
  try clear p6
  try clear c7
  try clear c8
  try clear hcz5_0
  try clear hcz5_1
  try clear hcz9_0
  try clear hcz9_1
  try clear hfz5_0
  try clear hfz5_1
  try clear hfz9_0
  try clear hfz9_1
  obtain ⟨x4_1, x299000_1, x299001_1, u299001, rfl, HA, HK1, HO_299001, BK296, BK297, BK298, HB⟩ := hrel
  cases gk with
  | zero => exact absurd HA.out (by simp [cenotaphref02_Fix.l0])
  | succ k1 =>
   have H := HA.out
   clear HA
   simp only [cenotaphref02_Fix.l0] at H
   by_cases c10 : x4_1 < (l0_1.length : Int)
   ·rw [if_pos c10] at H
    have c10b0 : decide (x4_1 < (l0_1.length : Int)) = true := decide_eq_true c10
    clear c10
    by_cases c11 : x4_1 < 30
    ·rw [if_pos c11] at H
     have c11b0 : decide (x4_1 < 30) = true := decide_eq_true c11
     clear c11
     by_cases c12 : 0 ≤ x4_1
     ·rw [if_pos c12] at H
      have c12b0 : decide (0 ≤ x4_1) = true := decide_eq_true c12
      clear c12
      replace H := Option.bind_eq_some_iff.mp H
      obtain ⟨⟨t300, t301⟩, A130, H⟩ := H
      replace H : (cenotaphref02_Fix.l0 k1 (wrap64 (x4_1 + 1)) a0_0 l0_1 t300 t301) = some (r1, r2) := H
      have A13 := Aside0.mk A130
      clear A130
      have H' := Aside0.mk H
      clear H
      have hnb14 := NB296_297.out
      have hnc14 := NB297_296.out
      have hnb15 := NB296_298.out
      have hnc15 := NB298_296.out
      have hcz16_0 : wr.cell? ⟨gb296, 0, none⟩ = some (.int .i64 a0_0) := (blk_cell BK296.out 0).trans rfl
      have hcz16_1 : wr.cell? ⟨gb296, 1, none⟩ = some (.slice A0_1 l0_1.length c0_1) := (blk_cell BK296.out 1).trans rfl
      have hfz16_0 := blk_frozen BK296.out 0
      have hfz16_1 := blk_frozen BK296.out 1
      try go_wp2
      replace HO_299001 := Aside0.mk (Kd.R_drew HO_299001.out)
      replace BK296 := Aside0.mk (blk_drew BK296.out)
      replace BK297 := Aside0.mk (blk_drew BK297.out)
      replace BK298 := Aside0.mk (blk_drew BK298.out)
      replace HB := Aside0.mk (below_drew1 HB.out)
      have p299 : 0 ≤ (x4_1 : Int) := of_decide_eq_true (by first | (with_reducible assumption) | assumption)
      have q299 : x4_1 < (l0_1.length : Int) := of_decide_eq_true (by first | (with_reducible assumption) | assumption)
      obtain ⟨ad299, e299, hx299_0⟩ := Kd.at_int HR0_1.out x4_1 p299 q299
      have hw299_0 := hx299_0
      cases e299
      replace hx299_0 := (HB.out.cell (World.block_lt_of_cell? w _ hx299_0)).trans hx299_0
      replace p299 := eq_true p299
      replace q299 := eq_true q299
      obtain ⟨Ao18, co18, eo18⟩ := Kd.R_slice HO_299001.out
      (first | subst eo18 | (injection eo18 with f1_ f2_ f3_; have f4_ := f1_.symm; have f5_ := f3_.symm; clear f1_ f2_ f3_; subst f4_; subst f5_))
      refine start_ (n := 12) (S := fun w' => w'.cell? ⟨gb298, 0, none⟩ = some (.int .i64 x299000_1) ∧ w'.cell? ⟨gb298, 1, none⟩ = some (.slice Ao18 x299001_1.length co18) ∧ w'.cell? ⟨gb296, 0, none⟩ = some (.int .i64 a0_0) ∧ w'.cell? ⟨gb296, 1, none⟩ = some (.slice (some ad299) l0_1.length c0_1) ∧ w'.cell? (ad299.add (x4_1).toNat) = some (.int .i64 (rd l0_1 x4_1))) (ds := [11]) #[false, false, false, false, false, false, false, false, false, false, false, false] (by kernel_rfl) rfl rfl ⟨(blk_cell BK298.out 0).trans rfl, (blk_cell BK298.out 1).trans rfl, (blk_cell BK296.out 0).trans rfl, (blk_cell BK296.out 1).trans rfl, ((HB.out.cell (World.block_lt_of_cell? w _ hw299_0)).trans hw299_0)⟩ (fun hHeld => ?_); refine with_tabW cenotaphref02_Fix.tab5 cenotaphref02_Fix.bits5 (fun HT_ HW_ => ?_)
      generalize wr.drew = w17 at HO_299001 BK296 BK297 BK298 HB hx299_0 hHeld ⊢
      refine p_ 1 23 (mk_ 12 0x2) ?_
      refine p_ 3 25 (mk_ 12 0xa) ?_
      refine t_ 0 22 (mk_ 12 0xb) hHeld ?_
      refine t_ 2 24 (mk_ 12 0xf) hHeld ?_
      refine p_ 4 26 (mk_ 12 0x1f) ?_
      refine t_ 5 27 (mk_ 12 0x3f) hHeld ?_
      refine p_ 6 28 (mk_ 12 0x7f) ?_
      refine p_ 7 29 (mk_ 12 0xff) ?_
      refine p_ 8 30 (mk_ 12 0x1ff) ?_
      refine p_ 9 31 (mk_ 12 0x3ff) ?_
      refine one_ (i := 10) (N := some 32) #[true, true, true, true, true, true, true, true, true, true, true, false] rfl rfl (one_of HT_.out (by kernel_rfl)) (by decide) (fun K hK => ?_)
      refine goes_ Try.func51 (by kernel_rfl) rfl #[.agg #[.int .i64 x299000_1, .slice Ao18 x299001_1.length co18], .int .i64 (wrap64 (1 + (wrap64 (Int.tmod (IntKind.u64.wrap (rd l0_1 x4_1)) 60))))] (by rfl) rfl rfl (by (try simp only [List.map_toArray, List.map_cons, List.map_nil]); first | done | rfl | (simp only [List.length_drop, List.length_take]; rfl)) ?_
      with_reducible refine (cenotaphref02_Add.calls k1 x299000_1 _ _ x299001_1 (wrap64 (1 + (wrap64 (Int.tmod (IntKind.u64.wrap (rd l0_1 x4_1)) 60)))) t300 t301 _ ?side1 ?side2 A13.out).mono ?_
      (case side1 => repeat (first | exact (Kd.R_reads' HO_299001.out).2.2 | (with_reducible refine Kd.C_alloc ?_ _) | (with_reducible refine Kd.C_drewN ?_ _) | (with_reducible refine Kd.C_drew ?_)))
      (case side2 => exact (Kd.R_reads' HO_299001.out).2.1)
      rintro e w19 ⟨v302, rfl, ho0, hb⟩
      refine ⟨_, rfl, ?_⟩
      have HO303 := Aside0.mk (Kd.R_lower (Kd.R_new' ho0 (Kd.R_lt (by (with_reducible repeat (first | apply Kd.R_alloc | apply Kd.R_drewN | apply Kd.R_drew)); exact HO_299001.out))) (below_size (by repeat (first | (with_reducible first | exact HB.out | apply below_alloc | apply pw_below_drewN | apply below_drew1 | refine below_set ?_ GE296.out | refine below_set ?_ GE297.out | refine below_set ?_ GE298.out) | exact HB.out))))
      replace HO_299001 := Aside0.mk (Kd.R_elder' (by (with_reducible repeat (first | apply Kd.R_alloc | apply Kd.R_drewN | apply Kd.R_drew)); exact HO_299001.out) (Kd.R_base ho0) hb)
      replace BK296 := Aside0.mk (blk_below (g := gb296) (o := .cells #[.int .i64 a0_0, .slice (some ad299) l0_1.length c0_1] 25 (0, 0)) zq45_3 hb)
      replace BK297 := Aside0.mk (blk_below (g := gb297) (o := .cells #[.int .i64 0, .slice none 0 0] 25 (0, 0)) zq45_4 hb)
      replace BK298 := Aside0.mk (blk_below (g := gb298) (o := .cells #[.int .i64 x299000_1, .slice Ao18 x299001_1.length co18] 25 (0, 0)) (by (with_reducible repeat (first | refine blk_drewN ?_ _ | refine blk_drew ?_ | refine blk_alloc ?_ _)); exact BK298.out) hb)
      replace HB := Aside0.mk (below_step (by repeat (first | (with_reducible first | exact HB.out | apply below_alloc | apply pw_below_drewN | apply below_drew1 | refine below_set ?_ GE296.out | refine below_set ?_ GE297.out | refine below_set ?_ GE298.out) | exact HB.out)) hb)
      (try clear hb)
      (try clear hb2)
      (try clear hk)
      (try clear hi)
      (try clear ho0)
      obtain ⟨Ao21, co21, eo21⟩ := Kd.R_slice HO303.out
      (first | subst eo21 | (injection eo21 with f1_ f2_ f3_; have f4_ := f1_.symm; have f5_ := f3_.symm; clear f1_ f2_ f3_; subst f4_; subst f5_))
      refine hK.out _ _ ⟨(blk_cell BK298.out 0).trans rfl, (blk_cell BK298.out 1).trans rfl, (blk_cell BK296.out 0).trans rfl, (blk_cell BK296.out 1).trans rfl, ((HB.out.cell (World.block_lt_of_cell? w _ hw299_0)).trans hw299_0)⟩ (fun hHeld => ?_)
      clear hK K
      refine norm_ (a' := ?_) ?_ ?_
      rotate_left
      ·show Act.put _ (some 32) _ = _
       simp only [Act.put, List.setIfInBounds_toArray, List.set_cons_zero, List.set_cons_succ, i64_w, i32_w]
       rfl
      refine last_ (i := 11) (N := none) #[true, true, true, true, true, true, true, true, true, true, true, true] rfl rfl (one_of HT_.out (by kernel_rfl)) (by decide) (fun K hK => ?_)
      have hs20 : w19.cell? ⟨gb298, 0, none⟩ = some (.int .i64 x299000_1) := (blk_cell BK298.out 0).trans rfl
      have hfs20 := blk_frozen BK298.out 0
      have hns20_0 := NB296_298.out
      have hns20_1 := NB297_298.out
      have hms20_0 := NB298_296.out
      have hms20_1 := NB298_297.out
      have hs22 : w19.cell? ⟨gb298, 1, none⟩ = some (.slice Ao18 x299001_1.length co18) := (blk_cell BK298.out 1).trans rfl
      have hfs22 := blk_frozen BK298.out 1
      have hns22_0 := NB296_298.out
      have hns22_1 := NB297_298.out
      have hms22_0 := NB298_296.out
      have hms22_1 := NB298_297.out
      refine skip_ (w1 := ?_) (by rfl) rfl ?_ ?_
      rotate_left
      ·go_simp
       rfl
      refine hK.out _ _ ?_
      clear hK K
      refine done_ (done_of HT_.out (by kernel_rfl)) ?_
      try go_wp2
      go_roundg k1
      case measure => have := HK1.out; omega
      case rel => exact ⟨(wrap64 (x4_1 + 1)), (t300), (t301), (.slice Ao21 t301.length co21), (by first | rfl | (simp; done) | (simp [*]; done)), H', ⟨by have := HK1.out; omega⟩, ⟨by (with_reducible repeat (first | apply Kd.R_alloc | apply Kd.R_drewN | apply Kd.R_drew)); exact Kd.R_mono (Kd.R_far (p := ⟨gb298, 1, none⟩) (Kd.R_far (p := ⟨gb298, 0, none⟩) (Kd.R_types HO303.out BK298.out (by decide)) (fun _ hk => hk.2) (.int .i64 t300)) (fun _ hk => hk.2) (.slice Ao21 t301.length co21)) (fun _ hk => trivial)⟩, ⟨by (with_reducible repeat (first | refine blk_drewN ?_ _ | refine blk_drew ?_ | refine blk_alloc ?_ _)); refine blk_far ?_ NB296_298.out _; (with_reducible repeat (first | refine blk_drewN ?_ _ | refine blk_drew ?_ | refine blk_alloc ?_ _)); refine blk_far ?_ NB296_298.out _; (with_reducible repeat (first | refine blk_drewN ?_ _ | refine blk_drew ?_ | refine blk_alloc ?_ _)); exact BK296.out⟩, ⟨by (with_reducible repeat (first | refine blk_drewN ?_ _ | refine blk_drew ?_ | refine blk_alloc ?_ _)); refine blk_far ?_ NB297_298.out _; (with_reducible repeat (first | refine blk_drewN ?_ _ | refine blk_drew ?_ | refine blk_alloc ?_ _)); refine blk_far ?_ NB297_298.out _; (with_reducible repeat (first | refine blk_drewN ?_ _ | refine blk_drew ?_ | refine blk_alloc ?_ _)); exact BK297.out⟩, ⟨by (with_reducible repeat (first | refine blk_drewN ?_ _ | refine blk_drew ?_ | refine blk_alloc ?_ _)); refine blk_put (cs := #[.int .i64 t300, .slice Ao18 x299001_1.length co18]) ?_ 1 _ rfl; (with_reducible repeat (first | refine blk_drewN ?_ _ | refine blk_drew ?_ | refine blk_alloc ?_ _)); refine blk_put (cs := #[.int .i64 x299000_1, .slice Ao18 x299001_1.length co18]) ?_ 0 _ rfl; (with_reducible repeat (first | refine blk_drewN ?_ _ | refine blk_drew ?_ | refine blk_alloc ?_ _)); exact BK298.out⟩, ⟨by repeat (first | (with_reducible first | exact HB.out | apply below_alloc | apply pw_below_drewN | apply below_drew1 | refine below_set ?_ GE296.out | refine below_set ?_ GE297.out | refine below_set ?_ GE298.out) | exact HB.out)⟩⟩
     ·rw [if_neg c12] at H
      exact absurd H (by simp)
    ·rw [if_neg c11] at H
     have c11b0 : decide (x4_1 < 30) = false := decide_eq_false c11
     clear c11
     simp only [Option.some.injEq, Prod.mk.injEq] at H
     obtain ⟨rfl, rfl⟩ := H
     have hnb23 := NB296_297.out
     have hnc23 := NB297_296.out
     have hnb24 := NB296_298.out
     have hnc24 := NB298_296.out
     have hcz25_0 : wr.cell? ⟨gb296, 0, none⟩ = some (.int .i64 a0_0) := (blk_cell BK296.out 0).trans rfl
     have hcz25_1 : wr.cell? ⟨gb296, 1, none⟩ = some (.slice A0_1 l0_1.length c0_1) := (blk_cell BK296.out 1).trans rfl
     have hfz25_0 := blk_frozen BK296.out 0
     have hfz25_1 := blk_frozen BK296.out 1
     have hnb26 := NB298_297.out
     have hnc26 := NB297_298.out
     have hcz27_0 : wr.cell? ⟨gb298, 0, none⟩ = some (.int .i64 x299000_1) := (blk_cell BK298.out 0).trans rfl
     have hcz27_1 : wr.cell? ⟨gb298, 1, none⟩ = some (u299001) := (blk_cell BK298.out 1).trans rfl
     have hfz27_0 := blk_frozen BK298.out 0
     have hfz27_1 := blk_frozen BK298.out 1
     have hcz28_0 : wr.cell? ⟨gb297, 0, none⟩ = some (.int .i64 0) := (blk_cell BK297.out 0).trans rfl
     have hcz28_1 : wr.cell? ⟨gb297, 1, none⟩ = some (.slice none 0 0) := (blk_cell BK297.out 1).trans rfl
     have hfz28_0 := blk_frozen BK297.out 0
     have hfz28_1 := blk_frozen BK297.out 1
     obtain ⟨Ao29, co29, eo29⟩ := Kd.R_slice HO_299001.out
     subst eo29
     go_wp2
     refine bodyPost_ret (results_cell_row rfl _ _ gb297 25 #[.int .i64 x299000_1, .slice Ao29 x299001_1.length co29] (0, 0) _ rfl (by (with_reducible repeat (first | refine blk_drewN ?_ _ | refine blk_drew ?_ | refine blk_alloc ?_ _)); refine blk_put (cs := #[.int .i64 x299000_1, .slice none 0 0]) ?_ 1 _ rfl; (with_reducible repeat (first | refine blk_drewN ?_ _ | refine blk_drew ?_ | refine blk_alloc ?_ _)); refine blk_put (cs := #[.int .i64 0, .slice none 0 0]) ?_ 0 _ rfl; (with_reducible repeat (first | refine blk_drewN ?_ _ | refine blk_drew ?_ | refine blk_alloc ?_ _)); exact BK297.out) Try.underlying25 rfl (by kernel_rfl)) rfl ?_
     exact ⟨_, by first | rfl | (simp [errW_none, errW_some] <;> rfl) | (simp [*, errW_none, errW_some] <;> rfl), by (with_reducible repeat (first | apply Kd.R_alloc | apply Kd.R_drewN | apply Kd.R_drew)); exact Kd.R_mono (Kd.R_far (p := ⟨gb297, 1, none⟩) (Kd.R_far (p := ⟨gb297, 0, none⟩) (Kd.R_types HO_299001.out BK297.out (by decide)) (fun _ hk => hk.2) (.int .i64 x299000_1)) (fun _ hk => hk.2) (.slice Ao29 x299001_1.length co29)) (fun _ hk => trivial), by repeat (first | (with_reducible first | exact HB.out | apply below_alloc | apply pw_below_drewN | apply below_drew1 | refine below_set ?_ GE296.out | refine below_set ?_ GE297.out | refine below_set ?_ GE298.out) | exact HB.out)⟩
   ·rw [if_neg c10] at H
    have c10b0 : decide (x4_1 < (l0_1.length : Int)) = false := decide_eq_false c10
    clear c10
    simp only [Option.some.injEq, Prod.mk.injEq] at H
    obtain ⟨rfl, rfl⟩ := H
    have hnb30 := NB296_297.out
    have hnc30 := NB297_296.out
    have hnb31 := NB296_298.out
    have hnc31 := NB298_296.out
    have hcz32_0 : wr.cell? ⟨gb296, 0, none⟩ = some (.int .i64 a0_0) := (blk_cell BK296.out 0).trans rfl
    have hcz32_1 : wr.cell? ⟨gb296, 1, none⟩ = some (.slice A0_1 l0_1.length c0_1) := (blk_cell BK296.out 1).trans rfl
    have hfz32_0 := blk_frozen BK296.out 0
    have hfz32_1 := blk_frozen BK296.out 1
    have hnb33 := NB298_297.out
    have hnc33 := NB297_298.out
    have hcz34_0 : wr.cell? ⟨gb298, 0, none⟩ = some (.int .i64 x299000_1) := (blk_cell BK298.out 0).trans rfl
    have hcz34_1 : wr.cell? ⟨gb298, 1, none⟩ = some (u299001) := (blk_cell BK298.out 1).trans rfl
    have hfz34_0 := blk_frozen BK298.out 0
    have hfz34_1 := blk_frozen BK298.out 1
    have hcz35_0 : wr.cell? ⟨gb297, 0, none⟩ = some (.int .i64 0) := (blk_cell BK297.out 0).trans rfl
    have hcz35_1 : wr.cell? ⟨gb297, 1, none⟩ = some (.slice none 0 0) := (blk_cell BK297.out 1).trans rfl
    have hfz35_0 := blk_frozen BK297.out 0
    have hfz35_1 := blk_frozen BK297.out 1
    obtain ⟨Ao36, co36, eo36⟩ := Kd.R_slice HO_299001.out
    subst eo36
    go_wp2
    refine bodyPost_ret (results_cell_row rfl _ _ gb297 25 #[.int .i64 x299000_1, .slice Ao36 x299001_1.length co36] (0, 0) _ rfl (by (with_reducible repeat (first | refine blk_drewN ?_ _ | refine blk_drew ?_ | refine blk_alloc ?_ _)); refine blk_put (cs := #[.int .i64 x299000_1, .slice none 0 0]) ?_ 1 _ rfl; (with_reducible repeat (first | refine blk_drewN ?_ _ | refine blk_drew ?_ | refine blk_alloc ?_ _)); refine blk_put (cs := #[.int .i64 0, .slice none 0 0]) ?_ 0 _ rfl; (with_reducible repeat (first | refine blk_drewN ?_ _ | refine blk_drew ?_ | refine blk_alloc ?_ _)); exact BK297.out) Try.underlying25 rfl (by kernel_rfl)) rfl ?_
    exact ⟨_, by first | rfl | (simp [errW_none, errW_some] <;> rfl) | (simp [*, errW_none, errW_some] <;> rfl), by (with_reducible repeat (first | apply Kd.R_alloc | apply Kd.R_drewN | apply Kd.R_drew)); exact Kd.R_mono (Kd.R_far (p := ⟨gb297, 1, none⟩) (Kd.R_far (p := ⟨gb297, 0, none⟩) (Kd.R_types HO_299001.out BK297.out (by decide)) (fun _ hk => hk.2) (.int .i64 x299000_1)) (fun _ hk => hk.2) (.slice Ao36 x299001_1.length co36)) (fun _ hk => trivial), by repeat (first | (with_reducible first | exact HB.out | apply below_alloc | apply pw_below_drewN | apply below_drew1 | refine below_set ?_ GE296.out | refine below_set ?_ GE297.out | refine below_set ?_ GE298.out) | exact HB.out)⟩

/-! ### cenotaphref04_Fix: function 11 -/
theorem zq11_0 {p_ : Prop} (h_ : p_ := by (try simp only [List.map_toArray, List.map_cons, List.map_nil]); first | done | rfl | (simp only [List.length_drop, List.length_take]; rfl)) : p_ := h_
theorem zq11_1 {p_ : Prop} (h_ : p_ := by repeat (first | (with_reducible first | exact HB.out | apply below_alloc | apply pw_below_drewN | apply below_drew1) | exact HB.out)) : p_ := h_
theorem zq11_2 {p_ : Prop} (h_ : p_ := by first | (with_reducible assumption) | assumption) : p_ := h_
theorem zq11_3 {p_ : Prop} (h_ : p_ := by first | rfl | (simp; done) | (simp [*]; done)) : p_ := h_
mutual
def cenotaphref04_Fix.l0 : Nat → List (S27) → List (S27) → Int → Option ((List (S27)))
 | 0, _, _, _ => none
 | k + 1, x0, x3, x4 => if x4 < (x0.length : Int) then (cenotaphref04_Fix.j1 k x0 x3 x4 (decide (x4 < 10))) else (cenotaphref04_Fix.j1 k x0 x3 x4 false)
def cenotaphref04_Fix.j1 : Nat → List (S27) → List (S27) → Int → Bool → Option ((List (S27)))
 | 0, _, _, _, _ => none
 | k + 1, x0, x3, x4, x12 => if x12 = true then (if 0 ≤ x4 then (if x4 < (x0.length : Int) then ((cenotaphref01_Fix.f k ((rd_T27 x0 x4).f0)).bind fun t305 => ((cenotaphref02_Fix.f k ((rd_T27 x0 x4).f1.f0) ((rd_T27 x0 x4).f1.f1)).bind fun bt307 => ((cenotaphref04_put.f k x3 t305 bt307.1 bt307.2).bind fun t311 => (cenotaphref04_Fix.l0 k x0 t311 (wrap64 (x4 + 1)))))) else (none)) else (none)) else (some x3)
end
def cenotaphref04_Fix.f (k : Nat) (l0 : List (S27)) : Option ((List (S27))) := cenotaphref04_Fix.l0 k l0 ([] : List (S27)) 0
theorem cenotaphref04_Fix.mono_l : ∀ k, (∀ y0 y1 y2, LeO (cenotaphref04_Fix.l0 k y0 y1 y2) (cenotaphref04_Fix.l0 (k + 1) y0 y1 y2)) ∧ (∀ y0 y1 y2 y3, LeO (cenotaphref04_Fix.j1 k y0 y1 y2 y3) (cenotaphref04_Fix.j1 (k + 1) y0 y1 y2 y3))
 | 0 => ⟨fun _ _ _ r h => by simp [cenotaphref04_Fix.l0] at h, fun _ _ _ _ r h => by simp [cenotaphref04_Fix.j1] at h⟩
 | k + 1 => by
  obtain ⟨ih0, ih1⟩ := cenotaphref04_Fix.mono_l k
  refine ⟨?_, ?_⟩
  ·intro y0 y1 y2
   unfold cenotaphref04_Fix.l0
   repeat' first
   | (with_reducible exact ih0 _ _ _)
   | (with_reducible exact ih1 _ _ _ _)
   | (with_reducible exact cenotaphref01_Fix.mono _ _)
   | (with_reducible exact cenotaphref02_Fix.mono _ _ _)
   | (with_reducible exact cenotaphref04_put.mono _ _ _ _ _)
   | (with_reducible exact LeO.refl _)
   | (with_reducible exact LeO.none _)
   | (with_reducible refine LeO.ite ?_ ?_)
   | (with_reducible refine LeO.bind ?_ (fun _ => ?_))
   | exact ih0 _ _ _
   | exact ih1 _ _ _ _
   | exact cenotaphref01_Fix.mono _ _
   | exact cenotaphref02_Fix.mono _ _ _
   | exact cenotaphref04_put.mono _ _ _ _ _
   | exact LeO.none _
   | refine LeO.ite ?_ ?_
   | refine LeO.bind ?_ (fun _ => ?_)
  ·intro y0 y1 y2 y3
   unfold cenotaphref04_Fix.j1
   repeat' first
   | (with_reducible exact ih0 _ _ _)
   | (with_reducible exact ih1 _ _ _ _)
   | (with_reducible exact cenotaphref01_Fix.mono _ _)
   | (with_reducible exact cenotaphref02_Fix.mono _ _ _)
   | (with_reducible exact cenotaphref04_put.mono _ _ _ _ _)
   | (with_reducible exact LeO.refl _)
   | (with_reducible exact LeO.none _)
   | (with_reducible refine LeO.ite ?_ ?_)
   | (with_reducible refine LeO.bind ?_ (fun _ => ?_))
   | exact ih0 _ _ _
   | exact ih1 _ _ _ _
   | exact cenotaphref01_Fix.mono _ _
   | exact cenotaphref02_Fix.mono _ _ _
   | exact cenotaphref04_put.mono _ _ _ _ _
   | exact LeO.none _
   | refine LeO.ite ?_ ?_
   | refine LeO.bind ?_ (fun _ => ?_)
theorem cenotaphref04_Fix.mono : ∀ a0 k, LeO (cenotaphref04_Fix.f k a0) (cenotaphref04_Fix.f (k + 1) a0) := by
 intro a0 k
 obtain ⟨ih0, ih1⟩ := cenotaphref04_Fix.mono_l k
 unfold cenotaphref04_Fix.f
 repeat' first
   | (with_reducible exact ih0 _ _ _)
   | (with_reducible exact ih1 _ _ _ _)
   | (with_reducible exact cenotaphref01_Fix.mono _ _)
   | (with_reducible exact cenotaphref02_Fix.mono _ _ _)
   | (with_reducible exact cenotaphref04_put.mono _ _ _ _ _)
   | (with_reducible exact LeO.refl _)
   | (with_reducible exact LeO.none _)
   | (with_reducible refine LeO.ite ?_ ?_)
   | (with_reducible refine LeO.bind ?_ (fun _ => ?_))
   | exact ih0 _ _ _
   | exact ih1 _ _ _ _
   | exact cenotaphref01_Fix.mono _ _
   | exact cenotaphref02_Fix.mono _ _ _
   | exact cenotaphref04_put.mono _ _ _ _ _
   | exact LeO.none _
   | refine LeO.ite ?_ ?_
   | refine LeO.bind ?_ (fun _ => ?_)
def cenotaphref04_Fix.T5 : Bool × List (List Nat × List Nat) := (true, [([], []), ([], []), ([], []), ([1, 2], [1, 2]), ([3], [3]), ([4], [4]), ([5], [5]), ([], []), ([], []), ([7, 8], [7, 8]), ([9], [9]), ([10], [10]), ([11, 6], [11]), ([0, 6, 12, 12], [0, 6, 12]), ([13, 13, 0, 1, 2, 3, 4, 5, 6, 7, 8, 9, 10, 11, 12, 13], [0, 13])])
def cenotaphref04_Fix.B5 : List Nat := [0, 0, 0, 6, 14, 30, 62, 0, 0, 384, 896, 1920, 4094, 8191, 16383]
theorem cenotaphref04_Fix.tab5 : rtab .any (opsOf Try.f11 5) = cenotaphref04_Fix.T5 := by kernel_rfl
theorem cenotaphref04_Fix.bits5 : waitsOk cenotaphref04_Fix.T5.2 cenotaphref04_Fix.B5 = true := by kernel_rfl
set_option maxHeartbeats 8000000 in
set_option maxRecDepth 100000 in
theorem cenotaphref04_Fix.calls (k : Nat) (A0 : Option Addr) (c0 : Nat) (l0 : List (S27)) (r : List (S27)) (w : World) (hr0 : Kd.C k27 w A0 l0.length l0) (hc0 : l0.length ≤ c0) (h : cenotaphref04_Fix.f k l0 = some r) :
  Calls Try.prog 11 #[.slice A0 l0.length c0] w fun e w' => ∃ v0_ : Value, e = .returned (v0_) ∧ Kd.V k27 27 w' w.heap.size (fun k_ => (w.heap.size ≤ k_)) v0_ r ∧ Below w.heap.size w w' := by
 have hu25 := Try.underlying25
 have HR0 := Aside0.mk hr0
 have HC0 := Aside0.mk hc0
 clear hr0 hc0
 have HB := Aside0.mk (Below.refl w.heap.size w)
 have H : (cenotaphref04_Fix.l0 k l0 ([] : List (S27)) 0) = some r := h
 clear h
 have H' := Aside0.mk H
 clear H
 go_enter Try.func11, Try.ntmps11
 go_wp2
 go_loopg [3, 4] k (fun kq v3 v4 w' => ∃ (x3_1 : List (S27)) (x4_1 : Int), v4 = .int .i64 x4_1 ∧ Aside0 (cenotaphref04_Fix.l0 kq l0 x3_1 x4_1 = some r) ∧ Aside0 (kq ≤ k) ∧ Aside0 (Kd.V k27 27 w' w.heap.size (fun k_ => (w.heap.size ≤ k_)) v3 x3_1) ∧ Aside0 (Below w.heap.size w w'))
 case atStart => exact ⟨(([] : List (S27))), (0), zq11_3, H', ⟨Nat.le_refl _⟩, ⟨(Kd.V_nil _ _ _ _ _)⟩, ⟨by repeat (first | (with_reducible first | exact HB.out | apply below_alloc | apply pw_below_drewN | apply below_drew1) | exact HB.out)⟩⟩
 case round =>
  clear H'
  try clear c1
  obtain ⟨x3_1, x4_1, rfl, HA, HK1, HO_3, HB⟩ := hrel
  cases gk with
  | zero => exact absurd HA.out (by simp [cenotaphref04_Fix.l0])
  | succ k1 =>
   have H := HA.out
   clear HA
   simp only [cenotaphref04_Fix.l0] at H
   have HC2 := Aside0.mk H
   clear H
   go_upto_region 3 with (fail)
   go_cut [12] (fun v12 wc => ∃ (kq : Nat) (x12_1 : Bool), v12 = .bool x12_1 ∧ Aside0 (cenotaphref04_Fix.j1 kq l0 x3_1 x4_1 x12_1 = some r) ∧ Aside0 (kq ≤ k1) ∧ Aside0 (Kd.V k27 27 wc w.heap.size (fun k_ => (w.heap.size ≤ k_)) u3 x3_1) ∧ Aside0 (Below w.heap.size w wc))
   case first =>
    have H := HC2.out
    clear HC2
    by_cases c3 : x4_1 < (l0.length : Int)
    ·rw [if_pos c3] at H
     have c3b0 : decide (x4_1 < (l0.length : Int)) = true := decide_eq_true c3
     clear c3
     (first | rw [c3b0] | (simp only [i64_w, i32_w]; rw [c3b0]) | skip)
     have H' := Aside0.mk H
     clear H
     go_wp2
     go_meet
     case rel => exact ⟨_, (decide (x4_1 < 10)), zq11_3, H', ⟨by have := HK1.out; first | omega | exact Nat.le_refl _⟩, ⟨by (with_reducible repeat (first | apply Kd.V_alloc | apply Kd.V_drewN | apply Kd.V_drew)); exact HO_3.out⟩, ⟨by repeat (first | (with_reducible first | exact HB.out | apply below_alloc | apply pw_below_drewN | apply below_drew1) | exact HB.out)⟩⟩
    ·rw [if_neg c3] at H
     have c3b0 : decide (x4_1 < (l0.length : Int)) = false := decide_eq_false c3
     clear c3
     (first | rw [c3b0] | (simp only [i64_w, i32_w]; rw [c3b0]) | skip)
     have H' := Aside0.mk H
     clear H
     go_wp2
     go_meet
     case rel => exact ⟨_, (false), zq11_3, H', ⟨by have := HK1.out; first | omega | exact Nat.le_refl _⟩, ⟨by (with_reducible repeat (first | apply Kd.V_alloc | apply Kd.V_drewN | apply Kd.V_drew)); exact HO_3.out⟩, ⟨by repeat (first | (with_reducible first | exact HB.out | apply below_alloc | apply pw_below_drewN | apply below_drew1) | exact HB.out)⟩⟩
   case rest =>
    clear HC2
    try clear c1
    try clear p2
    try clear c3
    try clear c3b0
    obtain ⟨kq, x12_1, rfl, HA, HJ1, HO_3, HB⟩ := hcut
    cases kq with
    | zero => exact absurd HA.out (by simp [cenotaphref04_Fix.j1])
    | succ kj1 =>
     have H := HA.out
     clear HA
     simp only [cenotaphref04_Fix.j1] at H
     by_cases c4 : x12_1 = true
     ·subst c4
      have H1 : (if 0 ≤ x4_1 then (if x4_1 < (l0.length : Int) then ((cenotaphref01_Fix.f kj1 ((rd_T27 l0 x4_1).f0)).bind fun t305 => ((cenotaphref02_Fix.f kj1 ((rd_T27 l0 x4_1).f1.f0) ((rd_T27 l0 x4_1).f1.f1)).bind fun bt307 => ((cenotaphref04_put.f kj1 x3_1 t305 bt307.1 bt307.2).bind fun t311 => (cenotaphref04_Fix.l0 kj1 l0 t311 (wrap64 (x4_1 + 1)))))) else (none)) else (none)) = some r := by rw [if_pos rfl] at H; exact H
      clear H
      have H := H1
      clear H1
      by_cases c5 : 0 ≤ x4_1
      ·rw [if_pos c5] at H
       have c5b0 : decide (0 ≤ x4_1) = true := decide_eq_true c5
       clear c5
       by_cases c6 : x4_1 < (l0.length : Int)
       ·rw [if_pos c6] at H
        have c6b0 : decide (x4_1 < (l0.length : Int)) = true := decide_eq_true c6
        clear c6
        replace H := Option.bind_eq_some_iff.mp H
        obtain ⟨t305, A70, H⟩ := H
        have A7 := Aside0.mk A70
        clear A70
        replace H := Option.bind_eq_some_iff.mp H
        obtain ⟨⟨t307, t308⟩, A80, H⟩ := H
        have A8 := Aside0.mk A80
        clear A80
        replace H := Option.bind_eq_some_iff.mp H
        obtain ⟨t311, A90, H⟩ := H
        have A9 := Aside0.mk A90
        clear A90
        have H' := Aside0.mk H
        clear H
        try go_wp2
        replace HO_3 := Aside0.mk (Kd.V_drew HO_3.out)
        replace HB := Aside0.mk (below_drew1 HB.out)
        have p304 : 0 ≤ (x4_1 : Int) := of_decide_eq_true zq11_2
        have q304 : x4_1 < (l0.length : Int) := of_decide_eq_true zq11_2
        obtain ⟨ad304, A304_2, c304_2, e304, hx304_0, hx304_1, hx304_2, hl304_2, hi304_2⟩ := at_T27 HR0.out x4_1 p304 q304
        have hw304_2 := hx304_2
        have hw304_1 := hx304_1
        have hw304_0 := hx304_0
        cases e304
        replace hx304_0 := (HB.out.cell (World.block_lt_of_cell? w _ hx304_0)).trans hx304_0
        replace hx304_1 := (HB.out.cell (World.block_lt_of_cell? w _ hx304_1)).trans hx304_1
        replace hx304_2 := (HB.out.cell (World.block_lt_of_cell? w _ hx304_2)).trans hx304_2
        have HR304_2 := Aside0.mk hi304_2
        have HC304_2 := Aside0.mk hl304_2
        clear hi304_2 hl304_2
        replace p304 := eq_true p304
        replace q304 := eq_true q304
        have p306 : 0 ≤ (x4_1 : Int) := of_decide_eq_true zq11_2
        have q306 : x4_1 < (l0.length : Int) := of_decide_eq_true zq11_2
        obtain ⟨ad306, A306_2, c306_2, e306, hx306_0, hx306_1, hx306_2, hl306_2, hi306_2⟩ := at_T27 HR0.out x4_1 p306 q306
        have hw306_2 := hx306_2
        have hw306_1 := hx306_1
        have hw306_0 := hx306_0
        obtain rfl : ad304 = ad306 := (by injection e306)
        replace hx306_0 := (HB.out.cell (World.block_lt_of_cell? w _ hx306_0)).trans hx306_0
        replace hx306_1 := (HB.out.cell (World.block_lt_of_cell? w _ hx306_1)).trans hx306_1
        replace hx306_2 := (HB.out.cell (World.block_lt_of_cell? w _ hx306_2)).trans hx306_2
        have HR306_2 := Aside0.mk hi306_2
        have HC306_2 := Aside0.mk hl306_2
        clear hi306_2 hl306_2
        replace p306 := eq_true p306
        replace q306 := eq_true q306
        have ea_ := Option.some.inj (hx304_2.symm.trans hx306_2)
        injection ea_ with ea_ en_ ec_
        subst ea_
        subst ec_
        clear en_
        refine start_ (n := 15) (S := fun w' => w'.cell? (ad304.add ((x4_1).toNat * 3)) = some (.string ((rd_T27 l0 x4_1).f0)) ∧ w'.cell? ⟨(ad304.add ((x4_1).toNat * 3)).block, (ad304.add ((x4_1).toNat * 3)).off + 1, none⟩ = some (.int .i64 ((rd_T27 l0 x4_1).f1.f0)) ∧ w'.cell? ⟨(ad304.add ((x4_1).toNat * 3)).block, (ad304.add ((x4_1).toNat * 3)).off + 2, none⟩ = some (.slice A304_2 ((rd_T27 l0 x4_1).f1.f1).length c304_2) ∧ w'.cell? (ad304.add ((x4_1).toNat * 3)) = some (.string ((rd_T27 l0 x4_1).f0)) ∧ w'.cell? ⟨(ad304.add ((x4_1).toNat * 3)).block, (ad304.add ((x4_1).toNat * 3)).off + 1, none⟩ = some (.int .i64 ((rd_T27 l0 x4_1).f1.f0)) ∧ w'.cell? ⟨(ad304.add ((x4_1).toNat * 3)).block, (ad304.add ((x4_1).toNat * 3)).off + 2, none⟩ = some (.slice A304_2 ((rd_T27 l0 x4_1).f1.f1).length c304_2)) (ds := []) #[false, false, false, false, false, false, false, false, false, false, false, false, false, false, false] (by kernel_rfl) rfl rfl ⟨((HB.out.cell (World.block_lt_of_cell? w _ hw304_0)).trans hw304_0), ((HB.out.cell (World.block_lt_of_cell? w _ hw304_1)).trans hw304_1), ((HB.out.cell (World.block_lt_of_cell? w _ hw304_2)).trans hw304_2), ((HB.out.cell (World.block_lt_of_cell? w _ hw306_0)).trans hw306_0), ((HB.out.cell (World.block_lt_of_cell? w _ hw306_1)).trans hw306_1), ((HB.out.cell (World.block_lt_of_cell? w _ hw306_2)).trans hw306_2)⟩ (fun hHeld => ?_); refine with_tabW cenotaphref04_Fix.tab5 cenotaphref04_Fix.bits5 (fun HT_ HW_ => ?_)
        generalize wc.drew = w10 at HO_3 HB HR304_2 HR306_2 hx304_0 hx304_1 hx304_2 hx306_0 hx306_1 hx306_2 hHeld ⊢
        refine p_ 0 15 (mk_ 15 0x1) ?_
        refine p_ 1 16 (mk_ 15 0x3) ?_
        refine p_ 2 17 (mk_ 15 0x7) ?_
        refine p_ 3 18 (mk_ 15 0xf) ?_
        refine p_ 4 19 (mk_ 15 0x1f) ?_
        refine p_ 7 22 (mk_ 15 0x9f) ?_
        refine p_ 8 23 (mk_ 15 0x19f) ?_
        refine p_ 9 24 (mk_ 15 0x39f) ?_
        refine p_ 10 25 (mk_ 15 0x79f) ?_
        refine t_ 5 20 (mk_ 15 0x7bf) hHeld ?_
        refine t_ 11 26 (mk_ 15 0xfbf) hHeld ?_
        refine one_ (i := 6) (N := some 21) #[true, true, true, true, true, true, true, true, true, true, true, true, false, false, false] rfl rfl (one_of HT_.out (by kernel_rfl)) (by decide) (fun K hK => ?_)
        refine goes_ Try.func44 (by kernel_rfl) rfl #[.string ((rd_T27 l0 x4_1).f0)] (by rfl) rfl rfl zq11_0 ?_
        with_reducible refine (cenotaphref01_Fix.calls kj1 ((rd_T27 l0 x4_1).f0) t305 _ A7.out).mono ?_
        rintro e w' ⟨rfl, ⟨nd, rfl⟩⟩
        refine ⟨_, rfl, ?_⟩
        refine hK.out _ _ ⟨((HB.out.cell (World.block_lt_of_cell? w _ hw304_0)).trans hw304_0), ((HB.out.cell (World.block_lt_of_cell? w _ hw304_1)).trans hw304_1), ((HB.out.cell (World.block_lt_of_cell? w _ hw304_2)).trans hw304_2), ((HB.out.cell (World.block_lt_of_cell? w _ hw306_0)).trans hw306_0), ((HB.out.cell (World.block_lt_of_cell? w _ hw306_1)).trans hw306_1), ((HB.out.cell (World.block_lt_of_cell? w _ hw306_2)).trans hw306_2)⟩ (fun hHeld => ?_)
        clear hK K
        refine norm_ (a' := ?_) ?_ ?_
        rotate_left
        ·show Act.put _ (some 21) _ = _
         simp only [Act.put, List.setIfInBounds_toArray, List.set_cons_zero, List.set_cons_succ, i64_w, i32_w]
         rfl
        refine one_ (i := 12) (N := some 27) #[true, true, true, true, true, true, true, true, true, true, true, true, true, false, false] rfl rfl (one_of HT_.out (by kernel_rfl)) (by decide) (fun K hK => ?_)
        refine goes_ Try.func45 (by kernel_rfl) rfl #[.agg #[.int .i64 ((rd_T27 l0 x4_1).f1.f0), .slice A304_2 ((rd_T27 l0 x4_1).f1.f1).length c304_2]] (by rfl) rfl rfl zq11_0 ?_
        with_reducible refine (cenotaphref02_Fix.calls kj1 ((rd_T27 l0 x4_1).f1.f0) _ _ ((rd_T27 l0 x4_1).f1.f1) t307 t308 _ ?side1 ?side2 A8.out).mono ?_
        (case side1 => repeat (first | exact (Kd.C_below HR306_2.out zq11_1) | (with_reducible refine Kd.C_alloc ?_ _) | (with_reducible refine Kd.C_drewN ?_ _) | (with_reducible refine Kd.C_drew ?_)))
        (case side2 => exact HC306_2.out)
        rintro e w11 ⟨v309, rfl, ho0, hb⟩
        refine ⟨_, rfl, ?_⟩
        replace HO_3 := Aside0.mk (Kd.V_elder' (by (with_reducible repeat (first | apply Kd.V_alloc | apply Kd.V_drewN | apply Kd.V_drew)); exact HO_3.out) (Kd.R_base ho0) hb)
        have HO310 := Aside0.mk (Kd.R_lower (Kd.R_newM (M := fun k_ => (w.heap.size ≤ k_)) ho0 (below_size zq11_1) (fun k_ h_ => h_)) (below_size zq11_1))
        replace HB := Aside0.mk (below_step zq11_1 hb)
        (try clear hb)
        (try clear hb2)
        (try clear hk)
        (try clear hi)
        (try clear ho0)
        obtain ⟨Ao12, co12, eo12⟩ := Kd.V_slice HO_3.out
        (first | subst eo12 | (injection eo12 with f1_ f2_ f3_; have f4_ := f1_.symm; have f5_ := f3_.symm; clear f1_ f2_ f3_; subst f4_; subst f5_))
        obtain ⟨Ao13, co13, eo13⟩ := Kd.R_slice HO310.out
        (first | subst eo13 | (injection eo13 with f1_ f2_ f3_; have f4_ := f1_.symm; have f5_ := f3_.symm; clear f1_ f2_ f3_; subst f4_; subst f5_))
        refine hK.out _ _ ⟨((HB.out.cell (World.block_lt_of_cell? w _ hw304_0)).trans hw304_0), ((HB.out.cell (World.block_lt_of_cell? w _ hw304_1)).trans hw304_1), ((HB.out.cell (World.block_lt_of_cell? w _ hw304_2)).trans hw304_2), ((HB.out.cell (World.block_lt_of_cell? w _ hw306_0)).trans hw306_0), ((HB.out.cell (World.block_lt_of_cell? w _ hw306_1)).trans hw306_1), ((HB.out.cell (World.block_lt_of_cell? w _ hw306_2)).trans hw306_2)⟩ (fun hHeld => ?_)
        clear hK K
        refine norm_ (a' := ?_) ?_ ?_
        rotate_left
        ·show Act.put _ (some 27) _ = _
         simp only [Act.put, List.setIfInBounds_toArray, List.set_cons_zero, List.set_cons_succ, i64_w, i32_w]
         rfl
        refine one_ (i := 13) (N := some 28) #[true, true, true, true, true, true, true, true, true, true, true, true, true, true, false] rfl rfl (one_of HT_.out (by kernel_rfl)) (by decide) (fun K hK => ?_)
        refine goes_ Try.func43 (by kernel_rfl) rfl #[.slice Ao12 x3_1.length co12, .string t305, .agg #[.int .i64 t307, .slice Ao13 t308.length co13]] (by rfl) rfl rfl zq11_0 ?_
        with_reducible refine (cenotaphref04_put.calls kj1 (fun k_ => ((w.heap.size ≤ k_) ∧ some k_ ≠ (.slice Ao13 t308.length co13 : Value).ownBlock)) _ _ x3_1 t305 t307 (fun k_ => some k_ = (.slice Ao13 t308.length co13 : Value).ownBlock) _ _ t308 t311 _ ?side1 ?side2 A9.out).mono ?_
        (case side1 => exact HO_3.out)
        (case side2 => exact Kd.R_V (Kd.R_tight rfl (HO310.out)))
        rintro e w14 ⟨v312, rfl, ho0, hb⟩
        refine ⟨_, rfl, ?_⟩
        replace HO_3 := Aside0.mk (Kd.V_below (by (with_reducible repeat (first | apply Kd.V_alloc | apply Kd.V_drewN | apply Kd.V_drew)); exact HO_3.out) hb)
        have HO313 := Aside0.mk (Kd.V_lower (Kd.V_mono (ok' := fun k_ => (w.heap.size ≤ k_)) ho0 (fun k_ hk_ => Or.elim hk_ (fun hs_ => Or.elim hs_ (fun hs_ => hs_.1) (fun hs_ => ((HO310.out).1 k_ hs_.symm).1)) (fun hn_ => (Nat.le_trans (below_size zq11_1) hn_)))) (below_size zq11_1))
        replace HO310 := Aside0.mk (Kd.R_below (by (with_reducible repeat (first | apply Kd.R_alloc | apply Kd.R_drewN | apply Kd.R_drew)); exact HO310.out) hb)
        replace HB := Aside0.mk (below_step zq11_1 hb)
        (try clear hb)
        (try clear hb2)
        (try clear hk)
        (try clear hi)
        (try clear ho0)
        refine hK.out _ _ ⟨((HB.out.cell (World.block_lt_of_cell? w _ hw304_0)).trans hw304_0), ((HB.out.cell (World.block_lt_of_cell? w _ hw304_1)).trans hw304_1), ((HB.out.cell (World.block_lt_of_cell? w _ hw304_2)).trans hw304_2), ((HB.out.cell (World.block_lt_of_cell? w _ hw306_0)).trans hw306_0), ((HB.out.cell (World.block_lt_of_cell? w _ hw306_1)).trans hw306_1), ((HB.out.cell (World.block_lt_of_cell? w _ hw306_2)).trans hw306_2)⟩ (fun hHeld => ?_)
        clear hK K
        refine norm_ (a' := ?_) ?_ ?_
        rotate_left
        ·show Act.put _ (some 28) _ = _
         simp only [Act.put, List.setIfInBounds_toArray, List.set_cons_zero, List.set_cons_succ, i64_w, i32_w]
         rfl
        refine p_ 14 3 (mk_ 15 0x7fff) ?_
        refine done_ (done_of HT_.out (by kernel_rfl)) ?_
        try go_wp2
        go_roundg kj1
        case measure => have := HK1.out; have := HJ1.out; omega
        case rel => exact ⟨(t311), (wrap64 (x4_1 + 1)), zq11_3, H', ⟨by have := HK1.out; have := HJ1.out; omega⟩, ⟨by (with_reducible repeat (first | apply Kd.V_alloc | apply Kd.V_drewN | apply Kd.V_drew)); exact HO313.out⟩, ⟨by repeat (first | (with_reducible first | exact HB.out | apply below_alloc | apply pw_below_drewN | apply below_drew1) | exact HB.out)⟩⟩
       ·rw [if_neg c6] at H
        exact absurd H (by simp)
      ·rw [if_neg c5] at H
       exact absurd H (by simp)
     ·replace c4 := Bool.eq_false_iff.mpr c4
      subst c4
      have H1 : (some x3_1) = some r := by rw [if_neg (show ¬ (false = true) by decide)] at H; exact H
      clear H
      have H := H1
      clear H1
      obtain rfl := Option.some.inj H
      go_wp2
      go_ret
      exact ⟨_, by first | rfl | (simp [errW_none, errW_some] <;> rfl) | (simp [*, errW_none, errW_some] <;> rfl), by (with_reducible repeat (first | apply Kd.V_alloc | apply Kd.V_drewN | apply Kd.V_drew)); exact HO_3.out, by repeat (first | (with_reducible first | exact HB.out | apply below_alloc | apply pw_below_drewN | apply below_drew1) | exact HB.out)⟩

end Go.Proofs.Ytkfehkaiifjkmaa.P
