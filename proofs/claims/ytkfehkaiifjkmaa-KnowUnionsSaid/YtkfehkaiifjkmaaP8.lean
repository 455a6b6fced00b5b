-- Written by a program of this session (wip/pp.py over the kit's printer, with our own texts put in).
import Derived.Test.YtkfehkaiifjkmaaP0
namespace Go.Proofs.Ytkfehkaiifjkmaa.P
open Go.RowKit Go.Proofs.YtkfehkaiifjkmaaW.PrintWords Go.Proofs.YtkfehkaiifjkmaaW.PrintLast Go.Proofs.YtkfehkaiifjkmaaW.PrintMore
attribute [local go_sem] max2_int min2_int max_two min_two max_three min_three max_four min_four   -- for this text's walks alone
set_option linter.unusedVariables false
set_option linter.unusedSimpArgs false

/-! ### cenotaphref02_Same: function 18 -/
theorem zq18_0 {p_ : Prop} (h_ : p_ := by rw [hg]; exact Nat.ne_of_lt (blk_lt (g := gb314) (o := .cells #[.int .i64 a0_0, .slice A0_1 l0_1.length c0_1] 25 (0, 0)) (by (with_reducible repeat (first | refine blk_drewN ?_ _ | refine blk_drew ?_ | refine blk_alloc ?_ _)); exact BK314.out))) : p_ := h_
theorem zq18_1 {p_ : Prop} (h_ : p_ := by rw [hg]; exact Nat.ne_of_gt (blk_lt (g := gb314) (o := .cells #[.int .i64 a0_0, .slice A0_1 l0_1.length c0_1] 25 (0, 0)) (by (with_reducible repeat (first | refine blk_drewN ?_ _ | refine blk_drew ?_ | refine blk_alloc ?_ _)); exact BK314.out))) : p_ := h_
theorem zq18_2 {p_ : Prop} (h_ : p_ := by rw [hg]; exact (below_size (by repeat (first | (with_reducible first | exact HB.out | apply below_alloc | apply pw_below_drewN | apply below_drew1 | refine below_set ?_ GE314.out) | exact HB.out)))) : p_ := h_
theorem zq18_3 {p_ : Prop} (h_ : p_ := by rw [hg]; exact (below_size (by repeat (first | (with_reducible first | exact HB.out | apply below_alloc | apply pw_below_drewN | apply below_drew1) | exact HB.out)))) : p_ := h_
theorem zq18_4 {p_ : Prop} (h_ : p_ := by repeat (first | (with_reducible first | exact HB.out | apply below_alloc | apply pw_below_drewN | apply below_drew1 | refine below_set ?_ GE314.out) | exact HB.out)) : p_ := h_
theorem zq18_5 {p_ : Prop} (h_ : p_ := by repeat (first | (with_reducible first | exact HB.out | apply below_alloc | apply pw_below_drewN | apply below_drew1) | exact HB.out)) : p_ := h_
theorem zq18_6 {p_ : Prop} (h_ : p_ := by (with_reducible repeat (first | refine blk_drewN ?_ _ | refine blk_drew ?_ | refine blk_alloc ?_ _)); exact BK314.out) : p_ := h_
theorem zq18_7 {p_ : Prop} (h_ : p_ := by first | (with_reducible assumption) | assumption) : p_ := h_
theorem zq18_8 {p_ : Prop} (h_ : p_ := by first | rfl | (simp; done) | (simp [*]; done)) : p_ := h_
mutual
def cenotaphref02_Same.j0 : Nat → Bool → Int → List Int → Int → List Int → Option (Bool)
 | 0, _, _, _, _, _ => none
 | k + 1, x19, x315000, x315001, x316000, x316001 => if x19 = true then (some false) else (cenotaphref02_Same.l0 k 0 x315000 x315001 x316000 x316001)
def cenotaphref02_Same.l0 : Nat → Int → Int → List Int → Int → List Int → Option (Bool)
 | 0, _, _, _, _, _ => none
 | k + 1, x5, x315000, x315001, x316000, x316001 => if x5 < (x315001.length : Int) then (if 0 ≤ x5 then (if x5 < (x316001.length : Int) then (if (rd x315001 x5) = (rd x316001 x5) then (cenotaphref02_Same.l0 k (wrap64 (x5 + 1)) x315000 x315001 x316000 x316001) else (some false)) else (none)) else (none)) else (some true)
end
def cenotaphref02_Same.f (k : Nat) (a0_0 : Int) (l0_1 : List Int) (a1_0 : Int) (l1_1 : List Int) : Option (Bool) := if a0_0 = a1_0 then (cenotaphref02_Same.j0 k ((l0_1.length : Int) != (l1_1.length : Int)) a0_0 l0_1 a1_0 l1_1) else (cenotaphref02_Same.j0 k true a0_0 l0_1 a1_0 l1_1)
theorem cenotaphref02_Same.mono_l : ∀ k, (∀ y0 y1 y2 y3 y4, LeO (cenotaphref02_Same.j0 k y0 y1 y2 y3 y4) (cenotaphref02_Same.j0 (k + 1) y0 y1 y2 y3 y4)) ∧ (∀ y0 y1 y2 y3 y4, LeO (cenotaphref02_Same.l0 k y0 y1 y2 y3 y4) (cenotaphref02_Same.l0 (k + 1) y0 y1 y2 y3 y4))
 | 0 => ⟨fun _ _ _ _ _ r h => by simp [cenotaphref02_Same.j0] at h, fun _ _ _ _ _ r h => by simp [cenotaphref02_Same.l0] at h⟩
 | k + 1 => by
  obtain ⟨ih0, ih1⟩ := cenotaphref02_Same.mono_l k
  refine ⟨?_, ?_⟩
  ·intro y0 y1 y2 y3 y4
   unfold cenotaphref02_Same.j0
   repeat' first
   | (with_reducible exact ih0 _ _ _ _ _)
   | (with_reducible exact ih1 _ _ _ _ _)
   | (with_reducible exact LeO.refl _)
   | (with_reducible exact LeO.none _)
   | (with_reducible refine LeO.ite ?_ ?_)
   | (with_reducible refine LeO.bind ?_ (fun _ => ?_))
   | exact ih0 _ _ _ _ _
   | exact ih1 _ _ _ _ _
   | exact LeO.none _
   | refine LeO.ite ?_ ?_
   | refine LeO.bind ?_ (fun _ => ?_)
  ·intro y0 y1 y2 y3 y4
   unfold cenotaphref02_Same.l0
   repeat' first
   | (with_reducible exact ih0 _ _ _ _ _)
   | (with_reducible exact ih1 _ _ _ _ _)
   | (with_reducible exact LeO.refl _)
   | (with_reducible exact LeO.none _)
   | (with_reducible refine LeO.ite ?_ ?_)
   | (with_reducible refine LeO.bind ?_ (fun _ => ?_))
   | exact ih0 _ _ _ _ _
   | exact ih1 _ _ _ _ _
   | exact LeO.none _
   | refine LeO.ite ?_ ?_
   | refine LeO.bind ?_ (fun _ => ?_)
theorem cenotaphref02_Same.mono : ∀ a0 a1 a2 a3 k, LeO (cenotaphref02_Same.f k a0 a1 a2 a3) (cenotaphref02_Same.f (k + 1) a0 a1 a2 a3) := by
 intro a0 a1 a2 a3 k
 obtain ⟨ih0, ih1⟩ := cenotaphref02_Same.mono_l k
 unfold cenotaphref02_Same.f
 repeat' first
   | (with_reducible exact ih0 _ _ _ _ _)
   | (with_reducible exact ih1 _ _ _ _ _)
   | (with_reducible exact LeO.refl _)
   | (with_reducible exact LeO.none _)
   | (with_reducible refine LeO.ite ?_ ?_)
   | (with_reducible refine LeO.bind ?_ (fun _ => ?_))
   | exact ih0 _ _ _ _ _
   | exact ih1 _ _ _ _ _
   | exact LeO.none _
   | refine LeO.ite ?_ ?_
   | refine LeO.bind ?_ (fun _ => ?_)
set_option maxHeartbeats 8000000 in
set_option maxRecDepth 100000 in
theorem cenotaphref02_Same.calls (k : Nat) (a0_0 : Int) (A0_1 : Option Addr) (c0_1 : Nat) (l0_1 : List Int) (a1_0 : Int) (A1_1 : Option Addr) (c1_1 : Nat) (l1_1 : List Int) (r : Bool) (w : World) (hr0_1 : Kd.C (Kd.int .i64) w A0_1 l0_1.length l0_1) (hc0_1 : l0_1.length ≤ c0_1) (hr1_1 : Kd.C (Kd.int .i64) w A1_1 l1_1.length l1_1) (hc1_1 : l1_1.length ≤ c1_1) (h : cenotaphref02_Same.f k a0_0 l0_1 a1_0 l1_1 = some r) :
  Calls Try.prog 18 #[.agg #[.int .i64 a0_0, .slice A0_1 l0_1.length c0_1], .agg #[.int .i64 a1_0, .slice A1_1 l1_1.length c1_1]] w fun e w' => e = .returned (.bool r) ∧ Below w.heap.size w w' := by
 have hu25 := Try.underlying25
 have HR0_1 := Aside0.mk hr0_1
 have HC0_1 := Aside0.mk hc0_1
 clear hr0_1 hc0_1
 have HR1_1 := Aside0.mk hr1_1
 have HC1_1 := Aside0.mk hc1_1
 clear hr1_1 hc1_1
 have HB := Aside0.mk (Below.refl w.heap.size w)
 have H : (if a0_0 = a1_0 then (cenotaphref02_Same.j0 k ((l0_1.length : Int) != (l1_1.length : Int)) a0_0 l0_1 a1_0 l1_1) else (cenotaphref02_Same.j0 k true a0_0 l0_1 a1_0 l1_1)) = some r := h
 clear h
 have HC3 := Aside0.mk H
 clear H
 go_enter Try.func18, Try.ntmps18
 go_upto_region 1 with (first | ((with_reducible refine gate_dst (N := 2) rfl ?_); (try (refine gate_guard (by rfl) ?_; dsimp only)); refine box_event ?hg (N := 2) ?hd (cs := #[.int .i64 a0_0, .slice A0_1 l0_1.length c0_1]) (t := 25) ?hr ?_; (case hd => rfl); (case hg => rfl); (case hr => first | (go_simp; done) | (go_simp; rfl)); intro gb314 hg w4 hbox hb; have BK314 := Aside0.mk (hbox); have GW314 := Aside0.mk ((zq18_3 : w.heap.size ≤ gb314)); have GE314 := Aside0.mk ((zq18_3 : w.heap.size ≤ gb314)); replace HB := Aside0.mk (below_step zq18_5 hb); clear hb hbox hg) | ((with_reducible refine gate_dst (N := 3) rfl ?_); (try (refine gate_guard (by rfl) ?_; dsimp only)); refine box_event ?hg (N := 3) ?hd (cs := #[.int .i64 a1_0, .slice A1_1 l1_1.length c1_1]) (t := 25) ?hr ?_; (case hd => rfl); (case hg => rfl); (case hr => first | (go_simp; done) | (go_simp; rfl)); intro gb315 hg w5 hbox hb; have BK315 := Aside0.mk (hbox); have GW315 := Aside0.mk ((zq18_2 : w.heap.size ≤ gb315)); have GE315 := Aside0.mk ((zq18_2 : w.heap.size ≤ gb315)); replace HB := Aside0.mk (below_step zq18_4 hb); have NB314_315 := Aside0.mk ((zq18_0 : gb314 ≠ gb315)); have NB315_314 := Aside0.mk ((zq18_1 : gb315 ≠ gb314)); replace BK314 := Aside0.mk (blk_below (g := gb314) (o := .cells #[.int .i64 a0_0, .slice A0_1 l0_1.length c0_1] 25 (0, 0)) zq18_6 hb); clear hb hbox hg))
 repeat (go_quiet (first | ((with_reducible refine gate_dst (N := 2) rfl ?_); (try (refine gate_guard (by rfl) ?_; dsimp only)); refine box_event ?hg (N := 2) ?hd (cs := #[.int .i64 a0_0, .slice A0_1 l0_1.length c0_1]) (t := 25) ?hr ?_; (case hd => rfl); (case hg => rfl); (case hr => first | (go_simp; done) | (go_simp; rfl)); intro gb314 hg w4 hbox hb; have BK314 := Aside0.mk (hbox); have GW314 := Aside0.mk ((zq18_3 : w.heap.size ≤ gb314)); have GE314 := Aside0.mk ((zq18_3 : w.heap.size ≤ gb314)); replace HB := Aside0.mk (below_step zq18_5 hb); clear hb hbox hg) | ((with_reducible refine gate_dst (N := 3) rfl ?_); (try (refine gate_guard (by rfl) ?_; dsimp only)); refine box_event ?hg (N := 3) ?hd (cs := #[.int .i64 a1_0, .slice A1_1 l1_1.length c1_1]) (t := 25) ?hr ?_; (case hd => rfl); (case hg => rfl); (case hr => first | (go_simp; done) | (go_simp; rfl)); intro gb315 hg w5 hbox hb; have BK315 := Aside0.mk (hbox); have GW315 := Aside0.mk ((zq18_2 : w.heap.size ≤ gb315)); have GE315 := Aside0.mk ((zq18_2 : w.heap.size ≤ gb315)); replace HB := Aside0.mk (below_step zq18_4 hb); have NB314_315 := Aside0.mk ((zq18_0 : gb314 ≠ gb315)); have NB315_314 := Aside0.mk ((zq18_1 : gb315 ≠ gb314)); replace BK314 := Aside0.mk (blk_below (g := gb314) (o := .cells #[.int .i64 a0_0, .slice A0_1 l0_1.length c0_1] 25 (0, 0)) zq18_6 hb); clear hb hbox hg)); go_upto_region 1 with (first | ((with_reducible refine gate_dst (N := 2) rfl ?_); (try (refine gate_guard (by rfl) ?_; dsimp only)); refine box_event ?hg (N := 2) ?hd (cs := #[.int .i64 a0_0, .slice A0_1 l0_1.length c0_1]) (t := 25) ?hr ?_; (case hd => rfl); (case hg => rfl); (case hr => first | (go_simp; done) | (go_simp; rfl)); intro gb314 hg w4 hbox hb; have BK314 := Aside0.mk (hbox); have GW314 := Aside0.mk ((zq18_3 : w.heap.size ≤ gb314)); have GE314 := Aside0.mk ((zq18_3 : w.heap.size ≤ gb314)); replace HB := Aside0.mk (below_step zq18_5 hb); clear hb hbox hg) | ((with_reducible refine gate_dst (N := 3) rfl ?_); (try (refine gate_guard (by rfl) ?_; dsimp only)); refine box_event ?hg (N := 3) ?hd (cs := #[.int .i64 a1_0, .slice A1_1 l1_1.length c1_1]) (t := 25) ?hr ?_; (case hd => rfl); (case hg => rfl); (case hr => first | (go_simp; done) | (go_simp; rfl)); intro gb315 hg w5 hbox hb; have BK315 := Aside0.mk (hbox); have GW315 := Aside0.mk ((zq18_2 : w.heap.size ≤ gb315)); have GE315 := Aside0.mk ((zq18_2 : w.heap.size ≤ gb315)); replace HB := Aside0.mk (below_step zq18_4 hb); have NB314_315 := Aside0.mk ((zq18_0 : gb314 ≠ gb315)); have NB315_314 := Aside0.mk ((zq18_1 : gb315 ≠ gb314)); replace BK314 := Aside0.mk (blk_below (g := gb314) (o := .cells #[.int .i64 a0_0, .slice A0_1 l0_1.length c0_1] 25 (0, 0)) zq18_6 hb); clear hb hbox hg)))
 (try simp only [Act.put, List.setIfInBounds_toArray, List.set_cons_zero, List.set_cons_succ])
 go_cut [19] (fun v19 wc => ∃ (kq : Nat) (x19_2 : Bool), v19 = .bool x19_2 ∧ Aside0 (cenotaphref02_Same.j0 kq x19_2 a0_0 l0_1 a1_0 l1_1 = some r) ∧ Aside0 (kq ≤ k) ∧ Aside0 (wc.heap[gb314]? = some (.cells #[.int .i64 a0_0, (.slice A0_1 l0_1.length c0_1)] 25 (0, 0))) ∧ Aside0 (wc.heap[gb315]? = some (.cells #[.int .i64 a1_0, (.slice A1_1 l1_1.length c1_1)] 25 (0, 0))) ∧ Aside0 (Below w.heap.size w wc))
 case first =>
  have H := HC3.out
  clear HC3
  by_cases c6 : a0_0 = a1_0
  ·rw [if_pos c6] at H
   have c6b0 : (a0_0 == a1_0) = true := beq_iff_eq.mpr c6
   have c6b1 : (a0_0 != a1_0) = false := bne_eq_false_iff_eq.mpr c6
   clear c6
   (first | rw [c6b0] | (simp only [i64_w, i32_w]; rw [c6b0]) | skip)
   have H' := Aside0.mk H
   clear H
   have hnb7 := NB314_315.out
   have hnc7 := NB315_314.out
   have hcz8_0 : w5.cell? ⟨gb314, 0, none⟩ = some (.int .i64 a0_0) := (blk_cell BK314.out 0).trans rfl
   have hcz8_1 : w5.cell? ⟨gb314, 1, none⟩ = some (.slice A0_1 l0_1.length c0_1) := (blk_cell BK314.out 1).trans rfl
   have hfz8_0 := blk_frozen BK314.out 0
   have hfz8_1 := blk_frozen BK314.out 1
   have hcz9_0 : w5.cell? ⟨gb315, 0, none⟩ = some (.int .i64 a1_0) := (blk_cell BK315.out 0).trans rfl
   have hcz9_1 : w5.cell? ⟨gb315, 1, none⟩ = some (.slice A1_1 l1_1.length c1_1) := (blk_cell BK315.out 1).trans rfl
   have hfz9_0 := blk_frozen BK315.out 0
   have hfz9_1 := blk_frozen BK315.out 1
   go_wp2
   repeat (go_quiet (fail); try go_wp2)
   go_meet
   case rel => exact ⟨_, (((l0_1.length : Int) != (l1_1.length : Int))), zq18_8, H', ⟨by first | omega | exact Nat.le_refl _⟩, ⟨by (with_reducible repeat (first | refine blk_drewN ?_ _ | refine blk_drew ?_ | refine blk_alloc ?_ _)); exact BK314.out⟩, ⟨by (with_reducible repeat (first | refine blk_drewN ?_ _ | refine blk_drew ?_ | refine blk_alloc ?_ _)); exact BK315.out⟩, ⟨by repeat (first | (with_reducible first | exact HB.out | apply below_alloc | apply pw_below_drewN | apply below_drew1 | refine below_set ?_ GE314.out | refine below_set ?_ GE315.out) | exact HB.out)⟩⟩
  ·rw [if_neg c6] at H
   have c6b0 : (a0_0 == a1_0) = false := beq_eq_false_iff_ne.mpr c6
   have c6b1 : (a0_0 != a1_0) = true := bne_iff_ne.mpr c6
   (first | rw [c6b0] | (simp only [i64_w, i32_w]; rw [c6b0]) | skip)
   have H' := Aside0.mk H
   clear H
   have hnb10 := NB314_315.out
   have hnc10 := NB315_314.out
   have hcz11_0 : w5.cell? ⟨gb314, 0, none⟩ = some (.int .i64 a0_0) := (blk_cell BK314.out 0).trans rfl
   have hcz11_1 : w5.cell? ⟨gb314, 1, none⟩ = some (.slice A0_1 l0_1.length c0_1) := (blk_cell BK314.out 1).trans rfl
   have hfz11_0 := blk_frozen BK314.out 0
   have hfz11_1 := blk_frozen BK314.out 1
   have hcz12_0 : w5.cell? ⟨gb315, 0, none⟩ = some (.int .i64 a1_0) := (blk_cell BK315.out 0).trans rfl
   have hcz12_1 : w5.cell? ⟨gb315, 1, none⟩ = some (.slice A1_1 l1_1.length c1_1) := (blk_cell BK315.out 1).trans rfl
   have hfz12_0 := blk_frozen BK315.out 0
   have hfz12_1 := blk_frozen BK315.out 1
   go_wp2
   repeat (go_quiet (fail); try go_wp2)
   go_meet
   case rel => exact ⟨_, (true), zq18_8, H', ⟨by first | omega | exact Nat.le_refl _⟩, ⟨by (with_reducible repeat (first | refine blk_drewN ?_ _ | refine blk_drew ?_ | refine blk_alloc ?_ _)); exact BK314.out⟩, ⟨by (with_reducible repeat (first | refine blk_drewN ?_ _ | refine blk_drew ?_ | refine blk_alloc ?_ _)); exact BK315.out⟩, ⟨by repeat (first | (with_reducible first | exact HB.out | apply below_alloc | apply pw_below_drewN | apply below_drew1 | refine below_set ?_ GE314.out | refine below_set ?_ GE315.out) | exact HB.out)⟩⟩
 case rest =>
  clear HC3
  try clear c1
  try clear p2
  try clear c6
  try clear c6b0
  try clear c6b1
  try clear c7
  try clear c10
  try clear hcz11_0
  try clear hcz11_1
  try clear hcz12_0
  try clear hcz12_1
  try clear hcz8_0
  try clear hcz8_1
  try clear hcz9_0
  try clear hcz9_1
  try clear hfz11_0
  try clear hfz11_1
  try clear hfz12_0
  try clear hfz12_1
  try clear hfz8_0
  try clear hfz8_1
  try clear hfz9_0
  try clear hfz9_1
  obtain ⟨kq, x19_2, rfl, HA, HJ2, BK314, BK315, HB⟩ := hcut
  cases kq with
  | zero => exact absurd HA.out (by simp [cenotaphref02_Same.j0])
  | succ kj2 =>
   have H := HA.out
   clear HA
   simp only [cenotaphref02_Same.j0] at H
   by_cases c13 : x19_2 = true
   ·subst c13
    have H1 : (some false) = some r := by rw [if_pos rfl] at H; exact H
    clear H
    have H := H1
    clear H1
    obtain rfl := Option.some.inj H
    go_wp2
    repeat (go_quiet (fail); try go_wp2)
    go_ret
    exact ⟨by first | rfl | (simp [errW_none, errW_some] <;> rfl) | (simp [*, errW_none, errW_some] <;> rfl), by repeat (first | (with_reducible first | exact HB.out | apply below_alloc | apply pw_below_drewN | apply below_drew1 | refine below_set ?_ GE314.out | refine below_set ?_ GE315.out) | exact HB.out)⟩
   ·replace c13 := Bool.eq_false_iff.mpr c13
    subst c13
    have H1 : (cenotaphref02_Same.l0 kj2 0 a0_0 l0_1 a1_0 l1_1) = some r := by rw [if_neg (show ¬ (false = true) by decide)] at H; exact H
    clear H
    have H := H1
    clear H1
    have H' := Aside0.mk H
    clear H
    go_wp2
    repeat (go_quiet (fail); try go_wp2)
    go_loopg [5] kj2 (fun kq v5 w' => ∃ (x5_2 : Int), v5 = .int .i64 x5_2 ∧ Aside0 (cenotaphref02_Same.l0 kq x5_2 a0_0 l0_1 a1_0 l1_1 = some r) ∧ Aside0 (kq ≤ kj2) ∧ Aside0 (w'.heap[gb314]? = some (.cells #[.int .i64 a0_0, (.slice A0_1 l0_1.length c0_1)] 25 (0, 0))) ∧ Aside0 (w'.heap[gb315]? = some (.cells #[.int .i64 a1_0, (.slice A1_1 l1_1.length c1_1)] 25 (0, 0))) ∧ Aside0 (Below w.heap.size w w'))
    case atStart => exact ⟨(0), zq18_8, H', ⟨Nat.le_refl _⟩, ⟨by (with_reducible repeat (first | refine blk_drewN ?_ _ | refine blk_drew ?_ | refine blk_alloc ?_ _)); exact BK314.out⟩, ⟨by (with_reducible repeat (first | refine blk_drewN ?_ _ | refine blk_drew ?_ | refine blk_alloc ?_ _)); exact BK315.out⟩, ⟨by repeat (first | (with_reducible first | exact HB.out | apply below_alloc | apply pw_below_drewN | apply below_drew1 | refine below_set ?_ GE314.out | refine below_set ?_ GE315.out) | exact HB.out)⟩⟩
    case round =>
     clear H'
     try clear c1
     try clear p2
     try clear c6
     try clear c6b0
     try clear c6b1
     try clear c7
     try clear c10
     try clear c13
     try clear hcz11_0
     try clear hcz11_1
     try clear hcz12_0
     try clear hcz12_1
     try clear hcz8_0
     try clear hcz8_1
     try clear hcz9_0
     try clear hcz9_1
     try clear hfz11_0
     try clear hfz11_1
     try clear hfz12_0
     try clear hfz12_1
     try clear hfz8_0
     try clear hfz8_1
     try clear hfz9_0
     try clear hfz9_1
     try clear p2
     obtain ⟨x5_2, rfl, HA, HK2, BK314, BK315, HB⟩ := hrel
     cases gk with
     | zero => exact absurd HA.out (by simp [cenotaphref02_Same.l0])
     | succ k2 =>
      have H := HA.out
      clear HA
      simp only [cenotaphref02_Same.l0] at H
      by_cases c14 : x5_2 < (l0_1.length : Int)
      ·rw [if_pos c14] at H
       have c14b0 : decide (x5_2 < (l0_1.length : Int)) = true := decide_eq_true c14
       clear c14
       by_cases c15 : 0 ≤ x5_2
       ·rw [if_pos c15] at H
        have c15b0 : decide (0 ≤ x5_2) = true := decide_eq_true c15
        clear c15
        by_cases c16 : x5_2 < (l1_1.length : Int)
        ·rw [if_pos c16] at H
         have c16b0 : decide (x5_2 < (l1_1.length : Int)) = true := decide_eq_true c16
         clear c16
         by_cases c17 : (rd l0_1 x5_2) = (rd l1_1 x5_2)
         ·rw [if_pos c17] at H
          have c17b0 : ((rd l0_1 x5_2) == (rd l1_1 x5_2)) = true := beq_iff_eq.mpr c17
          have c17b1 : ((rd l0_1 x5_2) != (rd l1_1 x5_2)) = false := bne_eq_false_iff_eq.mpr c17
          clear c17
          have H' := Aside0.mk H
          clear H
          have hnb18 := NB314_315.out
          have hnc18 := NB315_314.out
          have hcz19_0 : wr.cell? ⟨gb314, 0, none⟩ = some (.int .i64 a0_0) := (blk_cell BK314.out 0).trans rfl
          have hcz19_1 : wr.cell? ⟨gb314, 1, none⟩ = some (.slice A0_1 l0_1.length c0_1) := (blk_cell BK314.out 1).trans rfl
          have hfz19_0 := blk_frozen BK314.out 0
          have hfz19_1 := blk_frozen BK314.out 1
          have p316 : 0 ≤ (x5_2 : Int) := of_decide_eq_true zq18_7
          have q316 : x5_2 < (l0_1.length : Int) := of_decide_eq_true zq18_7
          obtain ⟨ad316, e316, hx316_0⟩ := Kd.at_int HR0_1.out x5_2 p316 q316
          cases e316
          replace hx316_0 := (HB.out.cell (World.block_lt_of_cell? w _ hx316_0)).trans hx316_0
          replace p316 := eq_true p316
          replace q316 := eq_true q316
          have hcz20_0 : wr.cell? ⟨gb315, 0, none⟩ = some (.int .i64 a1_0) := (blk_cell BK315.out 0).trans rfl
          have hcz20_1 : wr.cell? ⟨gb315, 1, none⟩ = some (.slice A1_1 l1_1.length c1_1) := (blk_cell BK315.out 1).trans rfl
          have hfz20_0 := blk_frozen BK315.out 0
          have hfz20_1 := blk_frozen BK315.out 1
          have p317 : 0 ≤ (x5_2 : Int) := of_decide_eq_true zq18_7
          have q317 : x5_2 < (l1_1.length : Int) := of_decide_eq_true zq18_7
          obtain ⟨ad317, e317, hx317_0⟩ := Kd.at_int HR1_1.out x5_2 p317 q317
          cases e317
          replace hx317_0 := (HB.out.cell (World.block_lt_of_cell? w _ hx317_0)).trans hx317_0
          replace p317 := eq_true p317
          replace q317 := eq_true q317
          go_wp2
          repeat (go_quiet (fail); try go_wp2)
          go_roundg k2
          case measure => have := HJ2.out; have := HK2.out; omega
          case rel => exact ⟨(wrap64 (x5_2 + 1)), zq18_8, H', ⟨by have := HJ2.out; have := HK2.out; omega⟩, ⟨by (with_reducible repeat (first | refine blk_drewN ?_ _ | refine blk_drew ?_ | refine blk_alloc ?_ _)); exact BK314.out⟩, ⟨by (with_reducible repeat (first | refine blk_drewN ?_ _ | refine blk_drew ?_ | refine blk_alloc ?_ _)); exact BK315.out⟩, ⟨by repeat (first | (with_reducible first | exact HB.out | apply below_alloc | apply pw_below_drewN | apply below_drew1 | refine below_set ?_ GE314.out | refine below_set ?_ GE315.out) | exact HB.out)⟩⟩
         ·rw [if_neg c17] at H
          have c17b0 : ((rd l0_1 x5_2) == (rd l1_1 x5_2)) = false := beq_eq_false_iff_ne.mpr c17
          have c17b1 : ((rd l0_1 x5_2) != (rd l1_1 x5_2)) = true := bne_iff_ne.mpr c17
          obtain rfl := Option.some.inj H
          have hnb21 := NB314_315.out
          have hnc21 := NB315_314.out
          have hcz22_0 : wr.cell? ⟨gb314, 0, none⟩ = some (.int .i64 a0_0) := (blk_cell BK314.out 0).trans rfl
          have hcz22_1 : wr.cell? ⟨gb314, 1, none⟩ = some (.slice A0_1 l0_1.length c0_1) := (blk_cell BK314.out 1).trans rfl
          have hfz22_0 := blk_frozen BK314.out 0
          have hfz22_1 := blk_frozen BK314.out 1
          have p316 : 0 ≤ (x5_2 : Int) := of_decide_eq_true zq18_7
          have q316 : x5_2 < (l0_1.length : Int) := of_decide_eq_true zq18_7
          obtain ⟨ad316, e316, hx316_0⟩ := Kd.at_int HR0_1.out x5_2 p316 q316
          cases e316
          replace hx316_0 := (HB.out.cell (World.block_lt_of_cell? w _ hx316_0)).trans hx316_0
          replace p316 := eq_true p316
          replace q316 := eq_true q316
          have hcz23_0 : wr.cell? ⟨gb315, 0, none⟩ = some (.int .i64 a1_0) := (blk_cell BK315.out 0).trans rfl
          have hcz23_1 : wr.cell? ⟨gb315, 1, none⟩ = some (.slice A1_1 l1_1.length c1_1) := (blk_cell BK315.out 1).trans rfl
          have hfz23_0 := blk_frozen BK315.out 0
          have hfz23_1 := blk_frozen BK315.out 1
          have p317 : 0 ≤ (x5_2 : Int) := of_decide_eq_true zq18_7
          have q317 : x5_2 < (l1_1.length : Int) := of_decide_eq_true zq18_7
          obtain ⟨ad317, e317, hx317_0⟩ := Kd.at_int HR1_1.out x5_2 p317 q317
          cases e317
          replace hx317_0 := (HB.out.cell (World.block_lt_of_cell? w _ hx317_0)).trans hx317_0
          replace p317 := eq_true p317
          replace q317 := eq_true q317
          go_wp2
          repeat (go_quiet (fail); try go_wp2)
          go_ret
          exact ⟨by first | rfl | (simp [errW_none, errW_some] <;> rfl) | (simp [*, errW_none, errW_some] <;> rfl), by repeat (first | (with_reducible first | exact HB.out | apply below_alloc | apply pw_below_drewN | apply below_drew1 | refine below_set ?_ GE314.out | refine below_set ?_ GE315.out) | exact HB.out)⟩
        ·rw [if_neg c16] at H
         exact absurd H (by simp)
       ·rw [if_neg c15] at H
        exact absurd H (by simp)
      ·rw [if_neg c14] at H
       have c14b0 : decide (x5_2 < (l0_1.length : Int)) = false := decide_eq_false c14
       clear c14
       obtain rfl := Option.some.inj H
       have hnb24 := NB314_315.out
       have hnc24 := NB315_314.out
       have hcz25_0 : wr.cell? ⟨gb314, 0, none⟩ = some (.int .i64 a0_0) := (blk_cell BK314.out 0).trans rfl
       have hcz25_1 : wr.cell? ⟨gb314, 1, none⟩ = some (.slice A0_1 l0_1.length c0_1) := (blk_cell BK314.out 1).trans rfl
       have hfz25_0 := blk_frozen BK314.out 0
       have hfz25_1 := blk_frozen BK314.out 1
       go_wp2
       repeat (go_quiet (fail); try go_wp2)
       go_ret
       exact ⟨by first | rfl | (simp [errW_none, errW_some] <;> rfl) | (simp [*, errW_none, errW_some] <;> rfl), by repeat (first | (with_reducible first | exact HB.out | apply below_alloc | apply pw_below_drewN | apply below_drew1 | refine below_set ?_ GE314.out | refine below_set ?_ GE315.out) | exact HB.out)⟩

/-! ### cenotaphref04_Same: function 14 -/
theorem zq14_0 {p_ : Prop} (h_ : p_ := by first | (with_reducible assumption) | assumption) : p_ := h_
def cenotaphref04_Same.l0 : Nat → List (S27) → List (S27) → Int → Option (Bool)
 | 0, _, _, _ => none
 | k + 1, x0, x1, x5 => if x5 < (x0.length : Int) then (if 0 ≤ x5 then (if x5 < (x1.length : Int) then (if ((rd_T27 x0 x5).f0).toList = ((rd_T27 x1 x5).f0).toList then ((cenotaphref02_Same.f k ((rd_T27 x0 x5).f1.f0) ((rd_T27 x0 x5).f1.f1) ((rd_T27 x1 x5).f1.f0) ((rd_T27 x1 x5).f1.f1)).bind fun t322 => (if t322 = true then (cenotaphref04_Same.l0 k x0 x1 (wrap64 (x5 + 1))) else (some false))) else (some false)) else (none)) else (none)) else (some true)
def cenotaphref04_Same.f (k : Nat) (l0 : List (S27)) (l1 : List (S27)) : Option (Bool) := if (l0.length : Int) = (l1.length : Int) then (cenotaphref04_Same.l0 k l0 l1 0) else (some false)
theorem cenotaphref04_Same.mono_l : ∀ k, (∀ y0 y1 y2, LeO (cenotaphref04_Same.l0 k y0 y1 y2) (cenotaphref04_Same.l0 (k + 1) y0 y1 y2))
 | 0 => fun _ _ _ r h => by simp [cenotaphref04_Same.l0] at h
 | k + 1 => by
  have ih0 := cenotaphref04_Same.mono_l k
  ·intro y0 y1 y2
   unfold cenotaphref04_Same.l0
   repeat' first
   | (with_reducible exact ih0 _ _ _)
   | (with_reducible exact cenotaphref02_Same.mono _ _ _ _ _)
   | (with_reducible exact LeO.refl _)
   | (with_reducible exact LeO.none _)
   | (with_reducible refine LeO.ite ?_ ?_)
   | (with_reducible refine LeO.bind ?_ (fun _ => ?_))
   | exact ih0 _ _ _
   | exact cenotaphref02_Same.mono _ _ _ _ _
   | exact LeO.none _
   | refine LeO.ite ?_ ?_
   | refine LeO.bind ?_ (fun _ => ?_)
theorem cenotaphref04_Same.mono : ∀ a0 a1 k, LeO (cenotaphref04_Same.f k a0 a1) (cenotaphref04_Same.f (k + 1) a0 a1) := by
 intro a0 a1 k
 have ih0 := cenotaphref04_Same.mono_l k
 unfold cenotaphref04_Same.f
 repeat' first
   | (with_reducible exact ih0 _ _ _)
   | (with_reducible exact cenotaphref02_Same.mono _ _ _ _ _)
   | (with_reducible exact LeO.refl _)
   | (with_reducible exact LeO.none _)
   | (with_reducible refine LeO.ite ?_ ?_)
   | (with_reducible refine LeO.bind ?_ (fun _ => ?_))
   | exact ih0 _ _ _
   | exact cenotaphref02_Same.mono _ _ _ _ _
   | exact LeO.none _
   | refine LeO.ite ?_ ?_
   | refine LeO.bind ?_ (fun _ => ?_)
def cenotaphref04_Same.T6 : Bool × List (List Nat × List Nat) := (true, [([], []), ([], []), ([0, 1], [0, 1]), ([2], [2]), ([3], [3]), ([], []), ([], []), ([5, 6], [5, 6]), ([7], [7]), ([8], [8]), ([4, 9], [4, 9]), ([10], [10]), ([11], [11]), ([11], [11]), ([12, 13, 11], [11, 12, 13]), ([14, 11], [11, 14]), ([15, 11], [11, 15]), ([11], [11]), ([11], [11]), ([17, 18, 11], [11, 17, 18]), ([19, 11], [11, 19]), ([20, 11], [11, 20]), ([16, 21, 11, 11], [11, 16, 21]), ([22, 11], [11, 22]), ([11, 23], [11, 23])])
def cenotaphref04_Same.B6 : List Nat := [0, 0, 3, 7, 15, 0, 0, 96, 224, 480, 1023, 2047, 4095, 4095, 16383, 32767, 65535, 4095, 4095, 397311, 921599, 1970175, 4194303, 8388607, 16777215]
theorem cenotaphref04_Same.tab6 : rtab .any (opsOf Try.f14 6) = cenotaphref04_Same.T6 := by kernel_rfl
theorem cenotaphref04_Same.bits6 : waitsOk cenotaphref04_Same.T6.2 cenotaphref04_Same.B6 = true := by kernel_rfl
set_option maxHeartbeats 8000000 in
set_option maxRecDepth 100000 in
theorem cenotaphref04_Same.calls (k : Nat) (A0 : Option Addr) (c0 : Nat) (l0 : List (S27)) (A1 : Option Addr) (c1 : Nat) (l1 : List (S27)) (r : Bool) (w : World) (hr0 : Kd.C k27 w A0 l0.length l0) (hc0 : l0.length ≤ c0) (hr1 : Kd.C k27 w A1 l1.length l1) (hc1 : l1.length ≤ c1) (h : cenotaphref04_Same.f k l0 l1 = some r) :
  Calls Try.prog 14 #[.slice A0 l0.length c0, .slice A1 l1.length c1] w fun e w' => e = .returned (.bool r) ∧ Below w.heap.size w w' := by
 have hu25 := Try.underlying25
 have HR0 := Aside0.mk hr0
 have HC0 := Aside0.mk hc0
 clear hr0 hc0
 have HR1 := Aside0.mk hr1
 have HC1 := Aside0.mk hc1
 clear hr1 hc1
 have HB := Aside0.mk (Below.refl w.heap.size w)
 have H : (if (l0.length : Int) = (l1.length : Int) then (cenotaphref04_Same.l0 k l0 l1 0) else (some false)) = some r := h
 clear h
 by_cases c3 : (l0.length : Int) = (l1.length : Int)
 ·rw [if_pos c3] at H
  have c3b0 : ((l0.length : Int) == (l1.length : Int)) = true := beq_iff_eq.mpr c3
  have c3b1 : ((l0.length : Int) != (l1.length : Int)) = false := bne_eq_false_iff_eq.mpr c3
  have c3b2 : (l0.length == l1.length) = true := by first | simpa using c3 | (simp at c3 ⊢; omega)
  clear c3
  have H' := Aside0.mk H
  clear H
  go_enter Try.func14, Try.ntmps14
  go_wp2
  go_loopg [5] k (fun kq v5 w' => ∃ (x5_1 : Int), v5 = .int .i64 x5_1 ∧ Aside0 (cenotaphref04_Same.l0 kq l0 l1 x5_1 = some r) ∧ Aside0 (kq ≤ k) ∧ Aside0 (Below w.heap.size w w'))
  case atStart => exact ⟨(0), (by first | rfl | (simp; done) | (simp [*]; done)), H', ⟨Nat.le_refl _⟩, ⟨by repeat (first | (with_reducible first | exact HB.out | apply below_alloc | apply pw_below_drewN | apply below_drew1) | exact HB.out)⟩⟩
  case round =>
   clear H'
   try clear c1
   try clear p2
   try clear c3
   try clear c3b0
   try clear c3b1
   try clear c3b2
   obtain ⟨x5_1, rfl, HA, HK1, HB⟩ := hrel
   cases gk with
   | zero => exact absurd HA.out (by simp [cenotaphref04_Same.l0])
   | succ k1 =>
    have H := HA.out
    clear HA
    simp only [cenotaphref04_Same.l0] at H
    by_cases c4 : x5_1 < (l0.length : Int)
    ·rw [if_pos c4] at H
     have c4b0 : decide (x5_1 < (l0.length : Int)) = true := decide_eq_true c4
     clear c4
     by_cases c5 : 0 ≤ x5_1
     ·rw [if_pos c5] at H
      have c5b0 : decide (0 ≤ x5_1) = true := decide_eq_true c5
      clear c5
      by_cases c6 : x5_1 < (l1.length : Int)
      ·rw [if_pos c6] at H
       have c6b0 : decide (x5_1 < (l1.length : Int)) = true := decide_eq_true c6
       clear c6
       by_cases c7 : ((rd_T27 l0 x5_1).f0).toList = ((rd_T27 l1 x5_1).f0).toList
       ·rw [if_pos c7] at H
        have c7b0 : (((rd_T27 l0 x5_1).f0).toList == ((rd_T27 l1 x5_1).f0).toList) = true := beq_iff_eq.mpr c7
        have c7b1 : (((rd_T27 l0 x5_1).f0).toList != ((rd_T27 l1 x5_1).f0).toList) = false := bne_eq_false_iff_eq.mpr c7
        clear c7
        replace H := Option.bind_eq_some_iff.mp H
        obtain ⟨t322, A80, H⟩ := H
        have A8 := Aside0.mk A80
        clear A80
        by_cases c9 : t322 = true
        ·subst c9
         have H1 : (cenotaphref04_Same.l0 k1 l0 l1 (wrap64 (x5_1 + 1))) = some r := by rw [if_pos rfl] at H; exact H
         clear H
         have H := H1
         clear H1
         have H' := Aside0.mk H
         clear H
         try go_wp2
         replace HB := Aside0.mk (below_drew1 HB.out)
         have p318 : 0 ≤ (x5_1 : Int) := of_decide_eq_true zq14_0
         have q318 : x5_1 < (l0.length : Int) := of_decide_eq_true zq14_0
         obtain ⟨ad318, A318_2, c318_2, e318, hx318_0, hx318_1, hx318_2, hl318_2, hi318_2⟩ := at_T27 HR0.out x5_1 p318 q318
         have hw318_2 := hx318_2
         have hw318_1 := hx318_1
         have hw318_0 := hx318_0
         cases e318
         replace hx318_0 := (HB.out.cell (World.block_lt_of_cell? w _ hx318_0)).trans hx318_0
         replace hx318_1 := (HB.out.cell (World.block_lt_of_cell? w _ hx318_1)).trans hx318_1
         replace hx318_2 := (HB.out.cell (World.block_lt_of_cell? w _ hx318_2)).trans hx318_2
         have HR318_2 := Aside0.mk hi318_2
         have HC318_2 := Aside0.mk hl318_2
         clear hi318_2 hl318_2
         replace p318 := eq_true p318
         replace q318 := eq_true q318
         have p319 : 0 ≤ (x5_1 : Int) := of_decide_eq_true zq14_0
         have q319 : x5_1 < (l1.length : Int) := of_decide_eq_true zq14_0
         obtain ⟨ad319, A319_2, c319_2, e319, hx319_0, hx319_1, hx319_2, hl319_2, hi319_2⟩ := at_T27 HR1.out x5_1 p319 q319
         have hw319_2 := hx319_2
         have hw319_1 := hx319_1
         have hw319_0 := hx319_0
         cases e319
         replace hx319_0 := (HB.out.cell (World.block_lt_of_cell? w _ hx319_0)).trans hx319_0
         replace hx319_1 := (HB.out.cell (World.block_lt_of_cell? w _ hx319_1)).trans hx319_1
         replace hx319_2 := (HB.out.cell (World.block_lt_of_cell? w _ hx319_2)).trans hx319_2
         have HR319_2 := Aside0.mk hi319_2
         have HC319_2 := Aside0.mk hl319_2
         clear hi319_2 hl319_2
         replace p319 := eq_true p319
         replace q319 := eq_true q319
         have p320 : 0 ≤ (x5_1 : Int) := of_decide_eq_true zq14_0
         have q320 : x5_1 < (l0.length : Int) := of_decide_eq_true zq14_0
         obtain ⟨ad320, A320_2, c320_2, e320, hx320_0, hx320_1, hx320_2, hl320_2, hi320_2⟩ := at_T27 HR0.out x5_1 p320 q320
         have hw320_2 := hx320_2
         have hw320_1 := hx320_1
         have hw320_0 := hx320_0
         obtain rfl : ad318 = ad320 := (by injection e320)
         replace hx320_0 := (HB.out.cell (World.block_lt_of_cell? w _ hx320_0)).trans hx320_0
         replace hx320_1 := (HB.out.cell (World.block_lt_of_cell? w _ hx320_1)).trans hx320_1
         replace hx320_2 := (HB.out.cell (World.block_lt_of_cell? w _ hx320_2)).trans hx320_2
         have HR320_2 := Aside0.mk hi320_2
         have HC320_2 := Aside0.mk hl320_2
         clear hi320_2 hl320_2
         replace p320 := eq_true p320
         replace q320 := eq_true q320
         have ea_ := Option.some.inj (hx318_2.symm.trans hx320_2)
         injection ea_ with ea_ en_ ec_
         subst ea_
         subst ec_
         clear en_
         have p321 : 0 ≤ (x5_1 : Int) := of_decide_eq_true zq14_0
         have q321 : x5_1 < (l1.length : Int) := of_decide_eq_true zq14_0
         obtain ⟨ad321, A321_2, c321_2, e321, hx321_0, hx321_1, hx321_2, hl321_2, hi321_2⟩ := at_T27 HR1.out x5_1 p321 q321
         have hw321_2 := hx321_2
         have hw321_1 := hx321_1
         have hw321_0 := hx321_0
         obtain rfl : ad319 = ad321 := (by injection e321)
         replace hx321_0 := (HB.out.cell (World.block_lt_of_cell? w _ hx321_0)).trans hx321_0
         replace hx321_1 := (HB.out.cell (World.block_lt_of_cell? w _ hx321_1)).trans hx321_1
         replace hx321_2 := (HB.out.cell (World.block_lt_of_cell? w _ hx321_2)).trans hx321_2
         have HR321_2 := Aside0.mk hi321_2
         have HC321_2 := Aside0.mk hl321_2
         clear hi321_2 hl321_2
         replace p321 := eq_true p321
         replace q321 := eq_true q321
         have ea_ := Option.some.inj (hx319_2.symm.trans hx321_2)
         injection ea_ with ea_ en_ ec_
         subst ea_
         subst ec_
         clear en_
         refine start_ (n := 25) (S := fun w' => w'.cell? (ad318.add ((x5_1).toNat * 3)) = some (.string ((rd_T27 l0 x5_1).f0)) ∧ w'.cell? ⟨(ad318.add ((x5_1).toNat * 3)).block, (ad318.add ((x5_1).toNat * 3)).off + 1, none⟩ = some (.int .i64 ((rd_T27 l0 x5_1).f1.f0)) ∧ w'.cell? ⟨(ad318.add ((x5_1).toNat * 3)).block, (ad318.add ((x5_1).toNat * 3)).off + 2, none⟩ = some (.slice A318_2 ((rd_T27 l0 x5_1).f1.f1).length c318_2) ∧ w'.cell? (ad319.add ((x5_1).toNat * 3)) = some (.string ((rd_T27 l1 x5_1).f0)) ∧ w'.cell? ⟨(ad319.add ((x5_1).toNat * 3)).block, (ad319.add ((x5_1).toNat * 3)).off + 1, none⟩ = some (.int .i64 ((rd_T27 l1 x5_1).f1.f0)) ∧ w'.cell? ⟨(ad319.add ((x5_1).toNat * 3)).block, (ad319.add ((x5_1).toNat * 3)).off + 2, none⟩ = some (.slice A319_2 ((rd_T27 l1 x5_1).f1.f1).length c319_2) ∧ w'.cell? (ad318.add ((x5_1).toNat * 3)) = some (.string ((rd_T27 l0 x5_1).f0)) ∧ w'.cell? ⟨(ad318.add ((x5_1).toNat * 3)).block, (ad318.add ((x5_1).toNat * 3)).off + 1, none⟩ = some (.int .i64 ((rd_T27 l0 x5_1).f1.f0)) ∧ w'.cell? ⟨(ad318.add ((x5_1).toNat * 3)).block, (ad318.add ((x5_1).toNat * 3)).off + 2, none⟩ = some (.slice A318_2 ((rd_T27 l0 x5_1).f1.f1).length c318_2) ∧ w'.cell? (ad319.add ((x5_1).toNat * 3)) = some (.string ((rd_T27 l1 x5_1).f0)) ∧ w'.cell? ⟨(ad319.add ((x5_1).toNat * 3)).block, (ad319.add ((x5_1).toNat * 3)).off + 1, none⟩ = some (.int .i64 ((rd_T27 l1 x5_1).f1.f0)) ∧ w'.cell? ⟨(ad319.add ((x5_1).toNat * 3)).block, (ad319.add ((x5_1).toNat * 3)).off + 2, none⟩ = some (.slice A319_2 ((rd_T27 l1 x5_1).f1.f1).length c319_2)) (ds := []) #[false, false, false, false, false, false, false, false, false, false, false, false, false, false, false, false, false, false, false, false, false, false, false, false, false] (by kernel_rfl) rfl rfl ⟨((HB.out.cell (World.block_lt_of_cell? w _ hw318_0)).trans hw318_0), ((HB.out.cell (World.block_lt_of_cell? w _ hw318_1)).trans hw318_1), ((HB.out.cell (World.block_lt_of_cell? w _ hw318_2)).trans hw318_2), ((HB.out.cell (World.block_lt_of_cell? w _ hw319_0)).trans hw319_0), ((HB.out.cell (World.block_lt_of_cell? w _ hw319_1)).trans hw319_1), ((HB.out.cell (World.block_lt_of_cell? w _ hw319_2)).trans hw319_2), ((HB.out.cell (World.block_lt_of_cell? w _ hw320_0)).trans hw320_0), ((HB.out.cell (World.block_lt_of_cell? w _ hw320_1)).trans hw320_1), ((HB.out.cell (World.block_lt_of_cell? w _ hw320_2)).trans hw320_2), ((HB.out.cell (World.block_lt_of_cell? w _ hw321_0)).trans hw321_0), ((HB.out.cell (World.block_lt_of_cell? w _ hw321_1)).trans hw321_1), ((HB.out.cell (World.block_lt_of_cell? w _ hw321_2)).trans hw321_2)⟩ (fun hHeld => ?_); refine with_tabW cenotaphref04_Same.tab6 cenotaphref04_Same.bits6 (fun HT_ HW_ => ?_)
         generalize wr.drew = w10 at HB HR318_2 HR319_2 HR320_2 HR321_2 hx318_0 hx318_1 hx318_2 hx319_0 hx319_1 hx319_2 hx320_0 hx320_1 hx320_2 hx321_0 hx321_1 hx321_2 hHeld ⊢
         refine p_ 0 17 (mk_ 25 0x1) ?_
         refine p_ 1 18 (mk_ 25 0x3) ?_
         refine p_ 2 19 (mk_ 25 0x7) ?_
         refine p_ 3 20 (mk_ 25 0xf) ?_
         refine p_ 5 22 (mk_ 25 0x2f) ?_
         refine p_ 6 23 (mk_ 25 0x6f) ?_
         refine p_ 7 24 (mk_ 25 0xef) ?_
         refine p_ 8 25 (mk_ 25 0x1ef) ?_
         refine t_ 4 21 (mk_ 25 0x1ff) hHeld ?_
         refine t_ 9 26 (mk_ 25 0x3ff) hHeld ?_
         refine p_ 10 27 (mk_ 25 0x7ff) ?_
         refine p_ 11 28 (mk_ 25 0xfff) ?_
         refine p_ 12 29 (mk_ 25 0x1fff) ?_
         refine p_ 13 30 (mk_ 25 0x3fff) ?_
         refine p_ 14 31 (mk_ 25 0x7fff) ?_
         refine p_ 15 32 (mk_ 25 0xffff) ?_
         refine p_ 17 34 (mk_ 25 0x2ffff) ?_
         refine p_ 18 35 (mk_ 25 0x6ffff) ?_
         refine p_ 19 36 (mk_ 25 0xeffff) ?_
         refine p_ 20 37 (mk_ 25 0x1effff) ?_
         refine t_ 16 33 (mk_ 25 0x1fffff) hHeld ?_
         refine t_ 21 38 (mk_ 25 0x3fffff) hHeld ?_
         refine one_ (i := 22) (N := some 39) #[true, true, true, true, true, true, true, true, true, true, true, true, true, true, true, true, true, true, true, true, true, true, true, false, false] rfl rfl (one_of HT_.out (by kernel_rfl)) (by decide) (fun K hK => ?_)
         refine goes_ Try.func18 (by kernel_rfl) rfl #[.agg #[.int .i64 ((rd_T27 l0 x5_1).f1.f0), .slice A318_2 ((rd_T27 l0 x5_1).f1.f1).length c318_2], .agg #[.int .i64 ((rd_T27 l1 x5_1).f1.f0), .slice A319_2 ((rd_T27 l1 x5_1).f1.f1).length c319_2]] (by rfl) rfl rfl (by (try simp only [List.map_toArray, List.map_cons, List.map_nil]); first | done | rfl | (simp only [List.length_drop, List.length_take]; rfl)) ?_
         with_reducible refine (cenotaphref02_Same.calls k1 ((rd_T27 l0 x5_1).f1.f0) _ _ ((rd_T27 l0 x5_1).f1.f1) ((rd_T27 l1 x5_1).f1.f0) _ _ ((rd_T27 l1 x5_1).f1.f1) true _ ?side1 ?side2 ?side3 ?side4 A8.out).mono ?_
         (case side1 => repeat (first | exact (Kd.C_below HR320_2.out HB.out) | (with_reducible refine Kd.C_alloc ?_ _) | (with_reducible refine Kd.C_drewN ?_ _) | (with_reducible refine Kd.C_drew ?_)))
         (case side2 => exact HC320_2.out)
         (case side3 => repeat (first | exact (Kd.C_below HR321_2.out HB.out) | (with_reducible refine Kd.C_alloc ?_ _) | (with_reducible refine Kd.C_drewN ?_ _) | (with_reducible refine Kd.C_drew ?_)))
         (case side4 => exact HC321_2.out)
         rintro e w11 ⟨rfl, hb⟩
         refine ⟨_, rfl, ?_⟩
         replace HB := Aside0.mk (below_step (by repeat (first | (with_reducible first | exact HB.out | apply below_alloc | apply pw_below_drewN | apply below_drew1) | exact HB.out)) hb)
         (try clear hb)
         (try clear hb2)
         (try clear hk)
         (try clear hi)
         refine hK.out _ _ ⟨((HB.out.cell (World.block_lt_of_cell? w _ hw318_0)).trans hw318_0), ((HB.out.cell (World.block_lt_of_cell? w _ hw318_1)).trans hw318_1), ((HB.out.cell (World.block_lt_of_cell? w _ hw318_2)).trans hw318_2), ((HB.out.cell (World.block_lt_of_cell? w _ hw319_0)).trans hw319_0), ((HB.out.cell (World.block_lt_of_cell? w _ hw319_1)).trans hw319_1), ((HB.out.cell (World.block_lt_of_cell? w _ hw319_2)).trans hw319_2), ((HB.out.cell (World.block_lt_of_cell? w _ hw320_0)).trans hw320_0), ((HB.out.cell (World.block_lt_of_cell? w _ hw320_1)).trans hw320_1), ((HB.out.cell (World.block_lt_of_cell? w _ hw320_2)).trans hw320_2), ((HB.out.cell (World.block_lt_of_cell? w _ hw321_0)).trans hw321_0), ((HB.out.cell (World.block_lt_of_cell? w _ hw321_1)).trans hw321_1), ((HB.out.cell (World.block_lt_of_cell? w _ hw321_2)).trans hw321_2)⟩ (fun hHeld => ?_)
         clear hK K
         refine norm_ (a' := ?_) ?_ ?_
         rotate_left
         ·show Act.put _ (some 39) _ = _
          simp only [Act.put, List.setIfInBounds_toArray, List.set_cons_zero, List.set_cons_succ, i64_w, i32_w]
          rfl
         refine p_ 23 40 (mk_ 25 0xffffff) ?_
         refine p_ 24 41 (mk_ 25 0x1ffffff) ?_
         refine done_ (done_of HT_.out (by kernel_rfl)) ?_
         try go_wp2
         go_roundg k1
         case measure => have := HK1.out; omega
         case rel => exact ⟨(wrap64 (x5_1 + 1)), (by first | rfl | (simp; done) | (simp [*]; done)), H', ⟨by have := HK1.out; omega⟩, ⟨by repeat (first | (with_reducible first | exact HB.out | apply below_alloc | apply pw_below_drewN | apply below_drew1) | exact HB.out)⟩⟩
        ·replace c9 := Bool.eq_false_iff.mpr c9
         subst c9
         have H1 : (some false) = some r := by rw [if_neg (show ¬ (false = true) by decide)] at H; exact H
         clear H
         have H := H1
         clear H1
         obtain rfl := Option.some.inj H
         try go_wp2
         replace HB := Aside0.mk (below_drew1 HB.out)
         have p318 : 0 ≤ (x5_1 : Int) := of_decide_eq_true zq14_0
         have q318 : x5_1 < (l0.length : Int) := of_decide_eq_true zq14_0
         obtain ⟨ad318, A318_2, c318_2, e318, hx318_0, hx318_1, hx318_2, hl318_2, hi318_2⟩ := at_T27 HR0.out x5_1 p318 q318
         have hw318_2 := hx318_2
         have hw318_1 := hx318_1
         have hw318_0 := hx318_0
         cases e318
         replace hx318_0 := (HB.out.cell (World.block_lt_of_cell? w _ hx318_0)).trans hx318_0
         replace hx318_1 := (HB.out.cell (World.block_lt_of_cell? w _ hx318_1)).trans hx318_1
         replace hx318_2 := (HB.out.cell (World.block_lt_of_cell? w _ hx318_2)).trans hx318_2
         have HR318_2 := Aside0.mk hi318_2
         have HC318_2 := Aside0.mk hl318_2
         clear hi318_2 hl318_2
         replace p318 := eq_true p318
         replace q318 := eq_true q318
         have p319 : 0 ≤ (x5_1 : Int) := of_decide_eq_true zq14_0
         have q319 : x5_1 < (l1.length : Int) := of_decide_eq_true zq14_0
         obtain ⟨ad319, A319_2, c319_2, e319, hx319_0, hx319_1, hx319_2, hl319_2, hi319_2⟩ := at_T27 HR1.out x5_1 p319 q319
         have hw319_2 := hx319_2
         have hw319_1 := hx319_1
         have hw319_0 := hx319_0
         cases e319
         replace hx319_0 := (HB.out.cell (World.block_lt_of_cell? w _ hx319_0)).trans hx319_0
         replace hx319_1 := (HB.out.cell (World.block_lt_of_cell? w _ hx319_1)).trans hx319_1
         replace hx319_2 := (HB.out.cell (World.block_lt_of_cell? w _ hx319_2)).trans hx319_2
         have HR319_2 := Aside0.mk hi319_2
         have HC319_2 := Aside0.mk hl319_2
         clear hi319_2 hl319_2
         replace p319 := eq_true p319
         replace q319 := eq_true q319
         have p320 : 0 ≤ (x5_1 : Int) := of_decide_eq_true zq14_0
         have q320 : x5_1 < (l0.length : Int) := of_decide_eq_true zq14_0
         obtain ⟨ad320, A320_2, c320_2, e320, hx320_0, hx320_1, hx320_2, hl320_2, hi320_2⟩ := at_T27 HR0.out x5_1 p320 q320
         have hw320_2 := hx320_2
         have hw320_1 := hx320_1
         have hw320_0 := hx320_0
         obtain rfl : ad318 = ad320 := (by injection e320)
         replace hx320_0 := (HB.out.cell (World.block_lt_of_cell? w _ hx320_0)).trans hx320_0
         replace hx320_1 := (HB.out.cell (World.block_lt_of_cell? w _ hx320_1)).trans hx320_1
         replace hx320_2 := (HB.out.cell (World.block_lt_of_cell? w _ hx320_2)).trans hx320_2
         have HR320_2 := Aside0.mk hi320_2
         have HC320_2 := Aside0.mk hl320_2
         clear hi320_2 hl320_2
         replace p320 := eq_true p320
         replace q320 := eq_true q320
         have ea_ := Option.some.inj (hx318_2.symm.trans hx320_2)
         injection ea_ with ea_ en_ ec_
         subst ea_
         subst ec_
         clear en_
         have p321 : 0 ≤ (x5_1 : Int) := of_decide_eq_true zq14_0
         have q321 : x5_1 < (l1.length : Int) := of_decide_eq_true zq14_0
         obtain ⟨ad321, A321_2, c321_2, e321, hx321_0, hx321_1, hx321_2, hl321_2, hi321_2⟩ := at_T27 HR1.out x5_1 p321 q321
         have hw321_2 := hx321_2
         have hw321_1 := hx321_1
         have hw321_0 := hx321_0
         obtain rfl : ad319 = ad321 := (by injection e321)
         replace hx321_0 := (HB.out.cell (World.block_lt_of_cell? w _ hx321_0)).trans hx321_0
         replace hx321_1 := (HB.out.cell (World.block_lt_of_cell? w _ hx321_1)).trans hx321_1
         replace hx321_2 := (HB.out.cell (World.block_lt_of_cell? w _ hx321_2)).trans hx321_2
         have HR321_2 := Aside0.mk hi321_2
         have HC321_2 := Aside0.mk hl321_2
         clear hi321_2 hl321_2
         replace p321 := eq_true p321
         replace q321 := eq_true q321
         have ea_ := Option.some.inj (hx319_2.symm.trans hx321_2)
         injection ea_ with ea_ en_ ec_
         subst ea_
         subst ec_
         clear en_
         refine start_ (n := 25) (S := fun w' => w'.cell? (ad318.add ((x5_1).toNat * 3)) = some (.string ((rd_T27 l0 x5_1).f0)) ∧ w'.cell? ⟨(ad318.add ((x5_1).toNat * 3)).block, (ad318.add ((x5_1).toNat * 3)).off + 1, none⟩ = some (.int .i64 ((rd_T27 l0 x5_1).f1.f0)) ∧ w'.cell? ⟨(ad318.add ((x5_1).toNat * 3)).block, (ad318.add ((x5_1).toNat * 3)).off + 2, none⟩ = some (.slice A318_2 ((rd_T27 l0 x5_1).f1.f1).length c318_2) ∧ w'.cell? (ad319.add ((x5_1).toNat * 3)) = some (.string ((rd_T27 l1 x5_1).f0)) ∧ w'.cell? ⟨(ad319.add ((x5_1).toNat * 3)).block, (ad319.add ((x5_1).toNat * 3)).off + 1, none⟩ = some (.int .i64 ((rd_T27 l1 x5_1).f1.f0)) ∧ w'.cell? ⟨(ad319.add ((x5_1).toNat * 3)).block, (ad319.add ((x5_1).toNat * 3)).off + 2, none⟩ = some (.slice A319_2 ((rd_T27 l1 x5_1).f1.f1).length c319_2) ∧ w'.cell? (ad318.add ((x5_1).toNat * 3)) = some (.string ((rd_T27 l0 x5_1).f0)) ∧ w'.cell? ⟨(ad318.add ((x5_1).toNat * 3)).block, (ad318.add ((x5_1).toNat * 3)).off + 1, none⟩ = some (.int .i64 ((rd_T27 l0 x5_1).f1.f0)) ∧ w'.cell? ⟨(ad318.add ((x5_1).toNat * 3)).block, (ad318.add ((x5_1).toNat * 3)).off + 2, none⟩ = some (.slice A318_2 ((rd_T27 l0 x5_1).f1.f1).length c318_2) ∧ w'.cell? (ad319.add ((x5_1).toNat * 3)) = some (.string ((rd_T27 l1 x5_1).f0)) ∧ w'.cell? ⟨(ad319.add ((x5_1).toNat * 3)).block, (ad319.add ((x5_1).toNat * 3)).off + 1, none⟩ = some (.int .i64 ((rd_T27 l1 x5_1).f1.f0)) ∧ w'.cell? ⟨(ad319.add ((x5_1).toNat * 3)).block, (ad319.add ((x5_1).toNat * 3)).off + 2, none⟩ = some (.slice A319_2 ((rd_T27 l1 x5_1).f1.f1).length c319_2)) (ds := []) #[false, false, false, false, false, false, false, false, false, false, false, false, false, false, false, false, false, false, false, false, false, false, false, false, false] (by kernel_rfl) rfl rfl ⟨((HB.out.cell (World.block_lt_of_cell? w _ hw318_0)).trans hw318_0), ((HB.out.cell (World.block_lt_of_cell? w _ hw318_1)).trans hw318_1), ((HB.out.cell (World.block_lt_of_cell? w _ hw318_2)).trans hw318_2), ((HB.out.cell (World.block_lt_of_cell? w _ hw319_0)).trans hw319_0), ((HB.out.cell (World.block_lt_of_cell? w _ hw319_1)).trans hw319_1), ((HB.out.cell (World.block_lt_of_cell? w _ hw319_2)).trans hw319_2), ((HB.out.cell (World.block_lt_of_cell? w _ hw320_0)).trans hw320_0), ((HB.out.cell (World.block_lt_of_cell? w _ hw320_1)).trans hw320_1), ((HB.out.cell (World.block_lt_of_cell? w _ hw320_2)).trans hw320_2), ((HB.out.cell (World.block_lt_of_cell? w _ hw321_0)).trans hw321_0), ((HB.out.cell (World.block_lt_of_cell? w _ hw321_1)).trans hw321_1), ((HB.out.cell (World.block_lt_of_cell? w _ hw321_2)).trans hw321_2)⟩ (fun hHeld => ?_); refine with_tabW cenotaphref04_Same.tab6 cenotaphref04_Same.bits6 (fun HT_ HW_ => ?_)
         generalize wr.drew = w12 at HB HR318_2 HR319_2 HR320_2 HR321_2 hx318_0 hx318_1 hx318_2 hx319_0 hx319_1 hx319_2 hx320_0 hx320_1 hx320_2 hx321_0 hx321_1 hx321_2 hHeld ⊢
         refine p_ 0 17 (mk_ 25 0x1) ?_
         refine p_ 1 18 (mk_ 25 0x3) ?_
         refine p_ 2 19 (mk_ 25 0x7) ?_
         refine p_ 3 20 (mk_ 25 0xf) ?_
         refine p_ 5 22 (mk_ 25 0x2f) ?_
         refine p_ 6 23 (mk_ 25 0x6f) ?_
         refine p_ 7 24 (mk_ 25 0xef) ?_
         refine p_ 8 25 (mk_ 25 0x1ef) ?_
         refine t_ 4 21 (mk_ 25 0x1ff) hHeld ?_
         refine t_ 9 26 (mk_ 25 0x3ff) hHeld ?_
         refine p_ 10 27 (mk_ 25 0x7ff) ?_
         refine p_ 11 28 (mk_ 25 0xfff) ?_
         refine p_ 12 29 (mk_ 25 0x1fff) ?_
         refine p_ 13 30 (mk_ 25 0x3fff) ?_
         refine p_ 14 31 (mk_ 25 0x7fff) ?_
         refine p_ 15 32 (mk_ 25 0xffff) ?_
         refine p_ 17 34 (mk_ 25 0x2ffff) ?_
         refine p_ 18 35 (mk_ 25 0x6ffff) ?_
         refine p_ 19 36 (mk_ 25 0xeffff) ?_
         refine p_ 20 37 (mk_ 25 0x1effff) ?_
         refine t_ 16 33 (mk_ 25 0x1fffff) hHeld ?_
         refine t_ 21 38 (mk_ 25 0x3fffff) hHeld ?_
         refine one_ (i := 22) (N := some 39) #[true, true, true, true, true, true, true, true, true, true, true, true, true, true, true, true, true, true, true, true, true, true, true, false, false] rfl rfl (one_of HT_.out (by kernel_rfl)) (by decide) (fun K hK => ?_)
         refine goes_ Try.func18 (by kernel_rfl) rfl #[.agg #[.int .i64 ((rd_T27 l0 x5_1).f1.f0), .slice A318_2 ((rd_T27 l0 x5_1).f1.f1).length c318_2], .agg #[.int .i64 ((rd_T27 l1 x5_1).f1.f0), .slice A319_2 ((rd_T27 l1 x5_1).f1.f1).length c319_2]] (by rfl) rfl rfl (by (try simp only [List.map_toArray, List.map_cons, List.map_nil]); first | done | rfl | (simp only [List.length_drop, List.length_take]; rfl)) ?_
         with_reducible refine (cenotaphref02_Same.calls k1 ((rd_T27 l0 x5_1).f1.f0) _ _ ((rd_T27 l0 x5_1).f1.f1) ((rd_T27 l1 x5_1).f1.f0) _ _ ((rd_T27 l1 x5_1).f1.f1) false _ ?side1 ?side2 ?side3 ?side4 A8.out).mono ?_
         (case side1 => repeat (first | exact (Kd.C_below HR320_2.out HB.out) | (with_reducible refine Kd.C_alloc ?_ _) | (with_reducible refine Kd.C_drewN ?_ _) | (with_reducible refine Kd.C_drew ?_)))
         (case side2 => exact HC320_2.out)
         (case side3 => repeat (first | exact (Kd.C_below HR321_2.out HB.out) | (with_reducible refine Kd.C_alloc ?_ _) | (with_reducible refine Kd.C_drewN ?_ _) | (with_reducible refine Kd.C_drew ?_)))
         (case side4 => exact HC321_2.out)
         rintro e w13 ⟨rfl, hb⟩
         refine ⟨_, rfl, ?_⟩
         replace HB := Aside0.mk (below_step (by repeat (first | (with_reducible first | exact HB.out | apply below_alloc | apply pw_below_drewN | apply below_drew1) | exact HB.out)) hb)
         (try clear hb)
         (try clear hb2)
         (try clear hk)
         (try clear hi)
         refine hK.out _ _ ⟨((HB.out.cell (World.block_lt_of_cell? w _ hw318_0)).trans hw318_0), ((HB.out.cell (World.block_lt_of_cell? w _ hw318_1)).trans hw318_1), ((HB.out.cell (World.block_lt_of_cell? w _ hw318_2)).trans hw318_2), ((HB.out.cell (World.block_lt_of_cell? w _ hw319_0)).trans hw319_0), ((HB.out.cell (World.block_lt_of_cell? w _ hw319_1)).trans hw319_1), ((HB.out.cell (World.block_lt_of_cell? w _ hw319_2)).trans hw319_2), ((HB.out.cell (World.block_lt_of_cell? w _ hw320_0)).trans hw320_0), ((HB.out.cell (World.block_lt_of_cell? w _ hw320_1)).trans hw320_1), ((HB.out.cell (World.block_lt_of_cell? w _ hw320_2)).trans hw320_2), ((HB.out.cell (World.block_lt_of_cell? w _ hw321_0)).trans hw321_0), ((HB.out.cell (World.block_lt_of_cell? w _ hw321_1)).trans hw321_1), ((HB.out.cell (World.block_lt_of_cell? w _ hw321_2)).trans hw321_2)⟩ (fun hHeld => ?_)
         clear hK K
         refine norm_ (a' := ?_) ?_ ?_
         rotate_left
         ·show Act.put _ (some 39) _ = _
          simp only [Act.put, List.setIfInBounds_toArray, List.set_cons_zero, List.set_cons_succ, i64_w, i32_w]
          rfl
         refine p_ 23 40 (mk_ 25 0xffffff) ?_
         refine p_ 24 41 (mk_ 25 0x1ffffff) ?_
         refine done_ (done_of HT_.out (by kernel_rfl)) ?_
         try go_wp2
         go_ret
         exact ⟨by first | rfl | (simp [errW_none, errW_some] <;> rfl) | (simp [*, errW_none, errW_some] <;> rfl), by repeat (first | (with_reducible first | exact HB.out | apply below_alloc | apply pw_below_drewN | apply below_drew1) | exact HB.out)⟩
       ·rw [if_neg c7] at H
        have c7b0 : (((rd_T27 l0 x5_1).f0).toList == ((rd_T27 l1 x5_1).f0).toList) = false := beq_eq_false_iff_ne.mpr c7
        have c7b1 : (((rd_T27 l0 x5_1).f0).toList != ((rd_T27 l1 x5_1).f0).toList) = true := bne_iff_ne.mpr c7
        obtain rfl := Option.some.inj H
        try go_wp2
        replace HB := Aside0.mk (below_drew1 HB.out)
        have p318 : 0 ≤ (x5_1 : Int) := of_decide_eq_true zq14_0
        have q318 : x5_1 < (l0.length : Int) := of_decide_eq_true zq14_0
        obtain ⟨ad318, A318_2, c318_2, e318, hx318_0, hx318_1, hx318_2, hl318_2, hi318_2⟩ := at_T27 HR0.out x5_1 p318 q318
        have hw318_2 := hx318_2
        have hw318_1 := hx318_1
        have hw318_0 := hx318_0
        cases e318
        replace hx318_0 := (HB.out.cell (World.block_lt_of_cell? w _ hx318_0)).trans hx318_0
        replace hx318_1 := (HB.out.cell (World.block_lt_of_cell? w _ hx318_1)).trans hx318_1
        replace hx318_2 := (HB.out.cell (World.block_lt_of_cell? w _ hx318_2)).trans hx318_2
        have HR318_2 := Aside0.mk hi318_2
        have HC318_2 := Aside0.mk hl318_2
        clear hi318_2 hl318_2
        replace p318 := eq_true p318
        replace q318 := eq_true q318
        have p319 : 0 ≤ (x5_1 : Int) := of_decide_eq_true zq14_0
        have q319 : x5_1 < (l1.length : Int) := of_decide_eq_true zq14_0
        obtain ⟨ad319, A319_2, c319_2, e319, hx319_0, hx319_1, hx319_2, hl319_2, hi319_2⟩ := at_T27 HR1.out x5_1 p319 q319
        have hw319_2 := hx319_2
        have hw319_1 := hx319_1
        have hw319_0 := hx319_0
        cases e319
        replace hx319_0 := (HB.out.cell (World.block_lt_of_cell? w _ hx319_0)).trans hx319_0
        replace hx319_1 := (HB.out.cell (World.block_lt_of_cell? w _ hx319_1)).trans hx319_1
        replace hx319_2 := (HB.out.cell (World.block_lt_of_cell? w _ hx319_2)).trans hx319_2
        have HR319_2 := Aside0.mk hi319_2
        have HC319_2 := Aside0.mk hl319_2
        clear hi319_2 hl319_2
        replace p319 := eq_true p319
        replace q319 := eq_true q319
        refine start_ (n := 25) (S := fun w' => w'.cell? (ad318.add ((x5_1).toNat * 3)) = some (.string ((rd_T27 l0 x5_1).f0)) ∧ w'.cell? ⟨(ad318.add ((x5_1).toNat * 3)).block, (ad318.add ((x5_1).toNat * 3)).off + 1, none⟩ = some (.int .i64 ((rd_T27 l0 x5_1).f1.f0)) ∧ w'.cell? ⟨(ad318.add ((x5_1).toNat * 3)).block, (ad318.add ((x5_1).toNat * 3)).off + 2, none⟩ = some (.slice A318_2 ((rd_T27 l0 x5_1).f1.f1).length c318_2) ∧ w'.cell? (ad319.add ((x5_1).toNat * 3)) = some (.string ((rd_T27 l1 x5_1).f0)) ∧ w'.cell? ⟨(ad319.add ((x5_1).toNat * 3)).block, (ad319.add ((x5_1).toNat * 3)).off + 1, none⟩ = some (.int .i64 ((rd_T27 l1 x5_1).f1.f0)) ∧ w'.cell? ⟨(ad319.add ((x5_1).toNat * 3)).block, (ad319.add ((x5_1).toNat * 3)).off + 2, none⟩ = some (.slice A319_2 ((rd_T27 l1 x5_1).f1.f1).length c319_2)) (ds := []) #[false, false, false, false, false, false, false, false, false, false, false, false, false, false, false, false, false, false, false, false, false, false, false, false, false] (by kernel_rfl) rfl rfl ⟨((HB.out.cell (World.block_lt_of_cell? w _ hw318_0)).trans hw318_0), ((HB.out.cell (World.block_lt_of_cell? w _ hw318_1)).trans hw318_1), ((HB.out.cell (World.block_lt_of_cell? w _ hw318_2)).trans hw318_2), ((HB.out.cell (World.block_lt_of_cell? w _ hw319_0)).trans hw319_0), ((HB.out.cell (World.block_lt_of_cell? w _ hw319_1)).trans hw319_1), ((HB.out.cell (World.block_lt_of_cell? w _ hw319_2)).trans hw319_2)⟩ (fun hHeld => ?_); refine with_tabW cenotaphref04_Same.tab6 cenotaphref04_Same.bits6 (fun HT_ HW_ => ?_)
        generalize wr.drew = w14 at HB HR318_2 HR319_2 hx318_0 hx318_1 hx318_2 hx319_0 hx319_1 hx319_2 hHeld ⊢
        refine p_ 0 17 (mk_ 25 0x1) ?_
        refine p_ 1 18 (mk_ 25 0x3) ?_
        refine p_ 2 19 (mk_ 25 0x7) ?_
        refine p_ 3 20 (mk_ 25 0xf) ?_
        refine p_ 5 22 (mk_ 25 0x2f) ?_
        refine p_ 6 23 (mk_ 25 0x6f) ?_
        refine p_ 7 24 (mk_ 25 0xef) ?_
        refine p_ 8 25 (mk_ 25 0x1ef) ?_
        refine t_ 4 21 (mk_ 25 0x1ff) hHeld ?_
        refine t_ 9 26 (mk_ 25 0x3ff) hHeld ?_
        refine p_ 10 27 (mk_ 25 0x7ff) ?_
        refine p_ 11 28 (mk_ 25 0xfff) ?_
        refine u_ 12 29 (mk_ 25 0x1fff) ?_
        refine u_ 13 30 (mk_ 25 0x3fff) ?_
        refine u_ 14 31 (mk_ 25 0x7fff) ?_
        refine u_ 15 32 (mk_ 25 0xffff) ?_
        refine u_ 16 33 (mk_ 25 0x1ffff) ?_
        refine u_ 17 34 (mk_ 25 0x3ffff) ?_
        refine u_ 18 35 (mk_ 25 0x7ffff) ?_
        refine u_ 19 36 (mk_ 25 0xfffff) ?_
        refine u_ 20 37 (mk_ 25 0x1fffff) ?_
        refine u_ 21 38 (mk_ 25 0x3fffff) ?_
        refine u_ 22 39 (mk_ 25 0x7fffff) ?_
        refine u_ 23 40 (mk_ 25 0xffffff) ?_
        refine p_ 24 41 (mk_ 25 0x1ffffff) ?_
        refine done_ (done_of HT_.out (by kernel_rfl)) ?_
        try go_wp2
        go_ret
        exact ⟨by first | rfl | (simp [errW_none, errW_some] <;> rfl) | (simp [*, errW_none, errW_some] <;> rfl), by repeat (first | (with_reducible first | exact HB.out | apply below_alloc | apply pw_below_drewN | apply below_drew1) | exact HB.out)⟩
      ·rw [if_neg c6] at H
       exact absurd H (by simp)
     ·rw [if_neg c5] at H
      exact absurd H (by simp)
    ·rw [if_neg c4] at H
     have c4b0 : decide (x5_1 < (l0.length : Int)) = false := decide_eq_false c4
     clear c4
     obtain rfl := Option.some.inj H
     go_wp2
     go_ret
     exact ⟨by first | rfl | (simp [errW_none, errW_some] <;> rfl) | (simp [*, errW_none, errW_some] <;> rfl), by repeat (first | (with_reducible first | exact HB.out | apply below_alloc | apply pw_below_drewN | apply below_drew1) | exact HB.out)⟩
 ·rw [if_neg c3] at H
  have c3b0 : ((l0.length : Int) == (l1.length : Int)) = false := beq_eq_false_iff_ne.mpr c3
  have c3b1 : ((l0.length : Int) != (l1.length : Int)) = true := bne_iff_ne.mpr c3
  have c3b2 : (l0.length == l1.length) = false := by first | simpa using c3 | (simp at c3 ⊢; omega)
  obtain rfl := Option.some.inj H
  go_enter Try.func14, Try.ntmps14
  go_wp2
  go_ret
  exact ⟨by first | rfl | (simp [errW_none, errW_some] <;> rfl) | (simp [*, errW_none, errW_some] <;> rfl), by repeat (first | (with_reducible first | exact HB.out | apply below_alloc | apply pw_below_drewN | apply below_drew1) | exact HB.out)⟩

/-! ### cenotaphlaw02_From: function 19 -/
def cenotaphlaw02_From.f (a0_0 : Int) (l0_1 : List Int) : Option (Int × List Int) := (some (([] : List Int) : List Int)).bind fun y325 => (if y325.length + l0_1.length < 17592186044416 then (some (a0_0, (y325 ++ l0_1))) else (none))
def cenotaphlaw02_From.T1 : Bool × List (List Nat × List Nat) := (true, [([], []), ([0], [0]), ([], []), ([], []), ([3], [3]), ([2, 4], [2, 4]), ([1, 5], [1, 5]), ([6, 5, 0, 1, 2, 3, 4, 5, 6], [6])])
def cenotaphlaw02_From.B1 : List Nat := [0, 1, 0, 0, 8, 28, 63, 127]
theorem cenotaphlaw02_From.tab1 : rtab .any (opsOf Try.f19 1) = cenotaphlaw02_From.T1 := by kernel_rfl
theorem cenotaphlaw02_From.bits1 : waitsOk cenotaphlaw02_From.T1.2 cenotaphlaw02_From.B1 = true := by kernel_rfl
set_option maxHeartbeats 8000000 in
set_option maxRecDepth 100000 in
theorem cenotaphlaw02_From.calls (a0_0 : Int) (A0_1 : Option Addr) (c0_1 : Nat) (l0_1 : List Int) (r1 : Int) (r2 : List Int) (w : World) (hr0_1 : Kd.C (Kd.int .i64) w A0_1 l0_1.length l0_1) (hc0_1 : l0_1.length ≤ c0_1) (h : cenotaphlaw02_From.f a0_0 l0_1 = some (r1, r2)) :
    Calls Try.prog 19 #[.agg #[.int .i64 a0_0, .slice A0_1 l0_1.length c0_1]] w fun e w' => ∃ v1_ : Value, e = .returned (.agg #[.int .i64 r1, v1_]) ∧ Kd.R (Kd.int .i64) 3 w' w.heap.size (fun _ => True) v1_ r2 ∧ Below w.heap.size w w' := by
  have hu44 := Try.underlying44
  have hu25 := Try.underlying25
  have HR0_1 := Aside0.mk hr0_1
  have HC0_1 := Aside0.mk hc0_1
  clear hr0_1 hc0_1
  have HB := Aside0.mk (Below.refl w.heap.size w)
  have H : ((some (([] : List Int) : List Int)).bind fun y325 => (if y325.length + l0_1.length < 17592186044416 then (some (a0_0, (y325 ++ l0_1))) else (none))) = some (r1, r2) := h
  clear h
  obtain ⟨y325, hy325⟩ : ∃ y_ : List Int, y_ = (([] : List Int)) := ⟨_, rfl⟩
  replace H : (if y325.length + l0_1.length < 17592186044416 then (some (a0_0, (y325 ++ l0_1))) else (none)) = some (r1, r2) := by first | (rw [hy325]; with_reducible exact H) | (have H2_ := (Option.bind_some _ _).symm.trans H; rw [hy325]; with_reducible exact H2_) | (have H2_ := (Option.bind_some _ _).symm.trans H; with_reducible exact H2_) | with_reducible exact H | (rw [hy325]; exact H) | exact H
  have Ny325 := Aside0.mk hy325
  clear hy325
  by_cases c2 : y325.length + l0_1.length < 17592186044416
  · rw [if_pos c2] at H
    have LMc2 := Aside0.mk c2
    clear c2
    obtain ⟨y328, hy328⟩ : ∃ y_ : List Int, y_ = (y325 ++ l0_1) := ⟨_, rfl⟩
    replace H : (some (a0_0, y328)) = some (r1, r2) := by first | (rw [hy328]; with_reducible exact H) | (have H2_ := (Option.bind_some _ _).symm.trans H; rw [hy328]; with_reducible exact H2_) | (have H2_ := (Option.bind_some _ _).symm.trans H; with_reducible exact H2_) | with_reducible exact H | (rw [hy328]; exact H) | exact H
    have Ny328 := Aside0.mk hy328
    clear hy328
    simp only [Option.some.injEq, Prod.mk.injEq] at H
    obtain ⟨rfl, rfl⟩ := H
    go_enter Try.func19, Try.ntmps19
    try go_wp2_with (first | ((with_reducible refine gate_dst (N := 1) rfl ?_); refine box_event ?hg (N := 1) ?hd (cs := #[.int .i64 a0_0, .slice A0_1 l0_1.length c0_1]) (t := 44) ?hr ?_; (case hd => rfl); (case hg => rfl); (case hr => first | (go_simp; done) | (go_simp; rfl)); intro gb323 hg w3 hbox hb; have BK323 := Aside0.mk (hbox); have GW323 := Aside0.mk ((by rw [hg]; exact (below_size (by repeat (first | (with_reducible first | exact HB.out | apply below_alloc | apply pw_below_drewN | apply below_drew1) | exact HB.out))) : w.heap.size ≤ gb323)); have GE323 := Aside0.mk ((by rw [hg]; exact (below_size (by repeat (first | (with_reducible first | exact HB.out | apply below_alloc | apply pw_below_drewN | apply below_drew1) | exact HB.out))) : w.heap.size ≤ gb323)); replace HB := Aside0.mk (below_step (by repeat (first | (with_reducible first | exact HB.out | apply below_alloc | apply pw_below_drewN | apply below_drew1) | exact HB.out)) hb); clear hb hbox hg) | ((with_reducible refine gate_dst (N := 2) rfl ?_); refine box_event ?hg (N := 2) ?hd (cs := #[.int .i64 0, .slice none 0 0]) (t := 25) ?hr ?_; (case hd => rfl); (case hg => rfl); (case hr => first | (go_simp; done) | (go_simp; rfl)); intro gb324 hg w4 hbox hb; have BK324 := Aside0.mk (hbox); have GW324 := Aside0.mk ((by rw [hg]; exact (below_size (by repeat (first | (with_reducible first | exact HB.out | apply below_alloc | apply pw_below_drewN | apply below_drew1 | refine below_set ?_ GE323.out) | exact HB.out))) : w.heap.size ≤ gb324)); have GE324 := Aside0.mk ((by rw [hg]; exact (below_size (by repeat (first | (with_reducible first | exact HB.out | apply below_alloc | apply pw_below_drewN | apply below_drew1 | refine below_set ?_ GE323.out) | exact HB.out))) : w.heap.size ≤ gb324)); replace HB := Aside0.mk (below_step (by repeat (first | (with_reducible first | exact HB.out | apply below_alloc | apply pw_below_drewN | apply below_drew1 | refine below_set ?_ GE323.out) | exact HB.out)) hb); have NB323_324 := Aside0.mk ((by rw [hg]; exact Nat.ne_of_lt (blk_lt (g := gb323) (o := .cells #[.int .i64 a0_0, .slice A0_1 l0_1.length c0_1] 44 (0, 0)) (by (with_reducible repeat (first | refine blk_drewN ?_ _ | refine blk_drew ?_ | refine blk_alloc ?_ _)); exact BK323.out)) : gb323 ≠ gb324)); have NB324_323 := Aside0.mk ((by rw [hg]; exact Nat.ne_of_gt (blk_lt (g := gb323) (o := .cells #[.int .i64 a0_0, .slice A0_1 l0_1.length c0_1] 44 (0, 0)) (by (with_reducible repeat (first | refine blk_drewN ?_ _ | refine blk_drew ?_ | refine blk_alloc ?_ _)); exact BK323.out)) : gb324 ≠ gb323)); replace BK323 := Aside0.mk (blk_below (g := gb323) (o := .cells #[.int .i64 a0_0, .slice A0_1 l0_1.length c0_1] 44 (0, 0)) (by (with_reducible repeat (first | refine blk_drewN ?_ _ | refine blk_drew ?_ | refine blk_alloc ?_ _)); exact BK323.out) hb); clear hb hbox hg))
    have n0_ := Aside0.mk (blk_drew BK323.out)
    have n1_ := Aside0.mk (blk_drew BK324.out)
    have n2_ := Aside0.mk (below_drew1 HB.out)
    clear BK323
    clear BK324
    clear HB
    have BK323 := n0_
    have BK324 := n1_
    have HB := n2_
    clear n0_ n1_ n2_
    refine start_ (n := 8) (S := fun w' => w'.cell? ⟨gb323, 0, none⟩ = some (.int .i64 a0_0) ∧ w'.cell? ⟨gb323, 1, none⟩ = some (.slice A0_1 l0_1.length c0_1)) (ds := []) #[false, false, false, false, false, false, false, false] (by kernel_rfl) rfl rfl ⟨(blk_cell BK323.out 0).trans rfl, (blk_cell BK323.out 1).trans rfl⟩ (fun hHeld => ?_); refine with_tabW cenotaphlaw02_From.tab1 cenotaphlaw02_From.bits1 (fun HT_ HW_ => ?_)
    generalize w4.drew = w5 at BK323 BK324 HB hHeld ⊢
    refine p_ 0 3 (mk_ 8 0x1) ?_
    refine p_ 3 6 (mk_ 8 0x9) ?_
    refine t_ 1 4 (mk_ 8 0xb) hHeld ?_
    refine t_ 4 7 (mk_ 8 0x1b) hHeld ?_
    refine one_ (i := 2) (N := some 5) #[true, true, true, true, true, false, false, false] rfl rfl (one_of HT_.out (by kernel_rfl)) (by decide) (fun K hK => ?_)
    refine Kd.R_lit_step (Kd.int .i64) _ 3 ?hg (N := 5) ?hd (xs := ([] : List Int)) (inner := []) (ok := fun _ => True) (okp := fun _ => True) ?hr ?hp (fun _ hk => hk) trivial (Below.refl _ _) (Nat.le_refl _) (by simp) ?_; (case hd => rfl); (case hg => rfl); (case hr => first | (go_simp; done) | (go_simp; rfl)); (case hp => exact (Reps.none _ _))
    intro v326 w6 ho7 hb hg_ hnew_
    clear hg_ hnew_
    (first | rw [← Ny325.out] at ho7 | (simp only [Int.reduceToNat] at ho7; rw [← Ny325.out] at ho7))
    have n0_ := Aside0.mk (Kd.R_lower ho7 (below_size (by repeat (first | (with_reducible first | exact HB.out | apply below_alloc | apply pw_below_drewN | apply below_drew1 | refine below_set ?_ GE323.out | refine below_set ?_ GE324.out) | exact HB.out))))
    have n1_ := Aside0.mk (blk_below (g := gb323) (o := .cells #[.int .i64 a0_0, .slice A0_1 l0_1.length c0_1] 44 (0, 0)) (by (with_reducible repeat (first | refine blk_drewN ?_ _ | refine blk_drew ?_ | refine blk_alloc ?_ _)); exact BK323.out) hb)
    have n2_ := Aside0.mk (blk_below (g := gb324) (o := .cells #[.int .i64 0, .slice none 0 0] 25 (0, 0)) (by (with_reducible repeat (first | refine blk_drewN ?_ _ | refine blk_drew ?_ | refine blk_alloc ?_ _)); exact BK324.out) hb)
    have n3_ := Aside0.mk (below_step (by repeat (first | (with_reducible first | exact HB.out | apply below_alloc | apply pw_below_drewN | apply below_drew1 | refine below_set ?_ GE323.out | refine below_set ?_ GE324.out) | exact HB.out)) hb)
    clear BK323
    clear BK324
    clear HB
    have HO327 := n0_
    have BK323 := n1_
    have BK324 := n2_
    have HB := n3_
    clear n0_ n1_ n2_ n3_
    clear hb ho7
    refine hK.out _ _ ⟨(blk_cell BK323.out 0).trans rfl, (blk_cell BK323.out 1).trans rfl⟩ (fun hHeld => ?_)
    clear hK K
    refine norm_ (a' := ?_) ?_ ?_
    rotate_left
    · show Act.put _ (some 5) _ = _
      simp only [Act.put, List.setIfInBounds_toArray, List.set_cons_zero, List.set_cons_succ, i64_w, i32_w]
      rfl
    refine one_ (i := 5) (N := some 8) #[true, true, true, true, true, true, false, false] rfl rfl (one_of HT_.out (by kernel_rfl)) (by decide) (fun K hK => ?_)
    refine Kd.R_append_rows_step (Kd.int .i64) (w0 := w) w.heap.size (by rfl) (.tmp 5) (.tmp 7) 23 3 (.int .i64 0) 8 rfl Try.underlying23 info3 rfl (by decide) (by omega) v326 y325 l0_1 _ _ _ (fun _ => True) (fun _ => False) rfl rfl ?aO ?aR (fun _ _ h => h) (fun _ h => h.elim) ?aF ?aB ?aS ?aL ?_
    (case aR => repeat (first | exact (Kd.C_below HR0_1.out HB.out) | (with_reducible refine Kd.C_alloc ?_ _) | (with_reducible refine Kd.C_drewN ?_ _) | (with_reducible refine Kd.C_drew ?_)))
    (case aB => exact (by repeat (first | (with_reducible first | exact HB.out | apply below_alloc | apply pw_below_drewN | apply below_drew1 | refine below_set ?_ GE323.out | refine below_set ?_ GE324.out) | exact HB.out)))
    (case aF => exact (fun _ _ => trivial))
    (case aO => exact (by (with_reducible repeat (first | apply Kd.R_alloc | apply Kd.R_drewN | apply Kd.R_drew)); exact HO327.out))
    (case aS => exact (below_size (by repeat (first | (with_reducible first | exact HB.out | apply below_alloc | apply pw_below_drewN | apply below_drew1 | refine below_set ?_ GE323.out | refine below_set ?_ GE324.out) | exact HB.out))))
    (case aL => have := LMc2.out; omega)
    intro v329 w8 ho hb hg hat
    rw [← Ny328.out] at ho
    have n0_ := Aside0.mk (blk_grown (g := gb323) (o := .cells #[.int .i64 a0_0, .slice A0_1 l0_1.length c0_1] 44 (0, 0)) (by (with_reducible repeat (first | refine blk_drewN ?_ _ | refine blk_drew ?_ | refine blk_alloc ?_ _)); exact BK323.out) hg (Kd.R_ne HO327.out BK323.out (by decide)))
    have n1_ := Aside0.mk (blk_grown (g := gb324) (o := .cells #[.int .i64 0, .slice none 0 0] 25 (0, 0)) (by (with_reducible repeat (first | refine blk_drewN ?_ _ | refine blk_drew ?_ | refine blk_alloc ?_ _)); exact BK324.out) hg (Kd.R_ne HO327.out BK324.out (by decide)))
    have n2_ := Aside0.mk (hb)
    have n3_ := Aside0.mk (ho)
    clear BK323
    clear BK324
    clear HB
    clear HO327
    have BK323 := n0_
    have BK324 := n1_
    have HB := n2_
    have HO330 := n3_
    clear n0_ n1_ n2_ n3_
    clear ho hb hg hat
    obtain ⟨Ao9, co9, eo9⟩ := Kd.R_slice HO330.out
    (first | subst eo9 | (injection eo9 with f1_ f2_ f3_; have f4_ := f1_.symm; have f5_ := f3_.symm; clear f1_ f2_ f3_; subst f4_; subst f5_))
    refine hK.out _ _ ⟨(blk_cell BK323.out 0).trans rfl, (blk_cell BK323.out 1).trans rfl⟩ (fun hHeld => ?_)
    clear hK K
    refine norm_ (a' := ?_) ?_ ?_
    rotate_left
    · show Act.put _ (some 8) _ = _
      simp only [Act.put, List.setIfInBounds_toArray, List.set_cons_zero, List.set_cons_succ, i64_w, i32_w]
      rfl
    refine p_ 6 9 (mk_ 8 0x7f) ?_
    refine one_ (i := 7) (N := none) #[true, true, true, true, true, true, true, true] rfl rfl (one_of HT_.out (by kernel_rfl)) (by decide) (fun K hK => ?_)
    have hs10 : w8.cell? ⟨gb324, 0, none⟩ = some (.int .i64 0) := (blk_cell BK324.out 0).trans rfl
    have hfs10 := blk_frozen BK324.out 0
    have hns10_0 := NB323_324.out
    have hms10_0 := NB324_323.out
    have hs11 : w8.cell? ⟨gb324, 1, none⟩ = some (.slice none 0 0) := (blk_cell BK324.out 1).trans rfl
    have hfs11 := blk_frozen BK324.out 1
    have hns11_0 := NB323_324.out
    have hms11_0 := NB324_323.out
    refine skip_ (w1 := ?_) (by rfl) rfl ?_ ?_
    rotate_left
    · go_simp
      rfl
    refine hK.out _ _ ⟨((cell_far (p := ⟨gb324, _, none⟩) NB323_324.out _).trans (((cell_far (p := ⟨gb324, _, none⟩) NB323_324.out _).trans (hHeld.1)))), ((cell_far (p := ⟨gb324, _, none⟩) NB323_324.out _).trans (((cell_far (p := ⟨gb324, _, none⟩) NB323_324.out _).trans (hHeld.2))))⟩ (fun hHeld => ?_)
    clear hK K
    refine done_ (done_of HT_.out (by kernel_rfl)) ?_
    try go_wp2
    refine bodyPost_ret (results_cell_row rfl _ _ gb324 25 #[.int .i64 a0_0, .slice Ao9 y328.length co9] (0, 0) _ rfl (by (with_reducible repeat (first | refine blk_drewN ?_ _ | refine blk_drew ?_ | refine blk_alloc ?_ _)); refine blk_put (cs := #[.int .i64 a0_0, .slice none 0 0]) ?_ 1 _ rfl; (with_reducible repeat (first | refine blk_drewN ?_ _ | refine blk_drew ?_ | refine blk_alloc ?_ _)); refine blk_put (cs := #[.int .i64 0, .slice none 0 0]) ?_ 0 _ rfl; (with_reducible repeat (first | refine blk_drewN ?_ _ | refine blk_drew ?_ | refine blk_alloc ?_ _)); exact BK324.out) Try.underlying25 rfl (by kernel_rfl)) rfl ?_
    exact ⟨_, by first | rfl | (simp [errW_none, errW_some] <;> rfl) | (simp [*, errW_none, errW_some] <;> rfl), by (with_reducible repeat (first | apply Kd.R_alloc | apply Kd.R_drewN | apply Kd.R_drew)); exact Kd.R_mono (Kd.R_far (p := ⟨gb324, 1, none⟩) (Kd.R_far (p := ⟨gb324, 0, none⟩) (Kd.R_types HO330.out BK324.out (by decide)) (fun _ hk => hk.2) (.int .i64 a0_0)) (fun _ hk => hk.2) (.slice Ao9 y328.length co9)) (fun _ hk => trivial), by repeat (first | (with_reducible first | exact HB.out | apply below_alloc | apply pw_below_drewN | apply below_drew1 | refine below_set ?_ GE323.out | refine below_set ?_ GE324.out) | exact HB.out)⟩
  · rw [if_neg c2] at H
    exact absurd H (by simp)

/-! ### cenotaphlaw04_From: function 15 -/
theorem zq15_0 {p_ : Prop} (h_ : p_ := by repeat (first | (with_reducible first | exact HB.out | apply below_alloc | apply pw_below_drewN | apply below_drew1) | exact HB.out)) : p_ := h_
theorem zq15_1 {p_ : Prop} (h_ : p_ := by first | (with_reducible assumption) | assumption) : p_ := h_
def cenotaphlaw04_From.l0 : Nat → List (S61) → List (S27) → Int → Option ((List (S27)))
 | 0, _, _, _ => none
 | k + 1, x0, x3, x4 => if x4 < (x0.length : Int) then (if 0 ≤ x4 then ((cenotaphlaw02_From.f ((rd_T61 x0 x4).f1.f0) ((rd_T61 x0 x4).f1.f1)).bind fun bt333 => (if x3.length < 2932031007402 then (cenotaphlaw04_From.l0 k x0 (x3 ++ [(⟨(rd_T61 x0 x4).f0, (⟨bt333.1, bt333.2⟩ : S25)⟩ : S27)]) (wrap64 (x4 + 1))) else (none))) else (none)) else (some x3)
def cenotaphlaw04_From.f (k : Nat) (l0 : List (S61)) : Option ((List (S27))) := cenotaphlaw04_From.l0 k l0 ([] : List (S27)) 0
theorem cenotaphlaw04_From.mono_l : ∀ k, (∀ y0 y1 y2, LeO (cenotaphlaw04_From.l0 k y0 y1 y2) (cenotaphlaw04_From.l0 (k + 1) y0 y1 y2))
 | 0 => fun _ _ _ r h => by simp [cenotaphlaw04_From.l0] at h
 | k + 1 => by
  have ih0 := cenotaphlaw04_From.mono_l k
  ·intro y0 y1 y2
   unfold cenotaphlaw04_From.l0
   repeat' first
   | (with_reducible exact ih0 _ _ _)
   | (with_reducible exact LeO.refl _)
   | (with_reducible exact LeO.none _)
   | (with_reducible refine LeO.ite ?_ ?_)
   | (with_reducible refine LeO.bind ?_ (fun _ => ?_))
   | exact ih0 _ _ _
   | exact LeO.none _
   | refine LeO.ite ?_ ?_
   | refine LeO.bind ?_ (fun _ => ?_)
theorem cenotaphlaw04_From.mono : ∀ a0 k, LeO (cenotaphlaw04_From.f k a0) (cenotaphlaw04_From.f (k + 1) a0) := by
 intro a0 k
 have ih0 := cenotaphlaw04_From.mono_l k
 unfold cenotaphlaw04_From.f
 repeat' first
   | (with_reducible exact ih0 _ _ _)
   | (with_reducible exact LeO.refl _)
   | (with_reducible exact LeO.none _)
   | (with_reducible refine LeO.ite ?_ ?_)
   | (with_reducible refine LeO.bind ?_ (fun _ => ?_))
   | exact ih0 _ _ _
   | exact LeO.none _
   | refine LeO.ite ?_ ?_
   | refine LeO.bind ?_ (fun _ => ?_)
def cenotaphlaw04_From.T5 : Bool × List (List Nat × List Nat) := (true, [([], []), ([], []), ([], []), ([1, 2], [1, 2]), ([3], [3]), ([4], [4]), ([], []), ([], []), ([6, 7], [6, 7]), ([8], [8]), ([9], [9]), ([10], [10]), ([5, 11], [5, 11]), ([12], [12]), ([0, 13, 11], [0, 13]), ([14, 14, 0, 1, 2, 3, 4, 5, 6, 7, 8, 9, 10, 11, 12, 13, 14], [0, 14])])
def cenotaphlaw04_From.B5 : List Nat := [0, 0, 0, 6, 14, 30, 0, 0, 192, 448, 960, 1984, 4094, 8190, 16383, 32767]
theorem cenotaphlaw04_From.tab5 : rtab .any (opsOf Try.f15 5) = cenotaphlaw04_From.T5 := by kernel_rfl
theorem cenotaphlaw04_From.bits5 : waitsOk cenotaphlaw04_From.T5.2 cenotaphlaw04_From.B5 = true := by kernel_rfl
set_option maxHeartbeats 8000000 in
set_option maxRecDepth 100000 in
theorem cenotaphlaw04_From.calls (k : Nat) (A0 : Option Addr) (c0 : Nat) (l0 : List (S61)) (r : List (S27)) (w : World) (hr0 : Kd.C k61 w A0 l0.length l0) (hc0 : l0.length ≤ c0) (h : cenotaphlaw04_From.f k l0 = some r) :
  Calls Try.prog 15 #[.slice A0 l0.length c0] w fun e w' => ∃ v0_ : Value, e = .returned (v0_) ∧ Kd.S k27 27 w' w.heap.size (fun _ => True) v0_ r ∧ Below w.heap.size w w' := by
 have hu44 := Try.underlying44
 have hu27 := Try.underlying27
 have HR0 := Aside0.mk hr0
 have HC0 := Aside0.mk hc0
 clear hr0 hc0
 have HB := Aside0.mk (Below.refl w.heap.size w)
 have H : (cenotaphlaw04_From.l0 k l0 ([] : List (S27)) 0) = some r := h
 clear h
 have H' := Aside0.mk H
 clear H
 go_enter Try.func15, Try.ntmps15
 go_wp2
 go_loopg [3, 4] k (fun kq v3 v4 w' => ∃ (x3_1 : List (S27)) (x4_1 : Int), v4 = .int .i64 x4_1 ∧ Aside0 (cenotaphlaw04_From.l0 kq l0 x3_1 x4_1 = some r) ∧ Aside0 (kq ≤ k) ∧ Aside0 (Kd.S k27 27 w' w.heap.size (fun _ => True) v3 x3_1) ∧ Aside0 (Below w.heap.size w w'))
 case atStart => exact ⟨(([] : List (S27))), (0), (by first | rfl | (simp; done) | (simp [*]; done)), H', ⟨Nat.le_refl _⟩, ⟨by first | exact Kd.S_nil _ _ _ _ _ | exact Kd.N_nil _ _ _ _ _ | exact Kd.V_nil _ _ _ _ _ | exact Kd.Q_nil _ _ _ _ _ | exact Kd.R_nil _ _ _ _ _⟩, ⟨by repeat (first | (with_reducible first | exact HB.out | apply below_alloc | apply pw_below_drewN | apply below_drew1) | exact HB.out)⟩⟩
 case round =>
  clear H'
  try clear c1
  obtain ⟨x3_1, x4_1, rfl, HA, HK1, HO_3, HB⟩ := hrel
  cases gk with
  | zero => exact absurd HA.out (by simp [cenotaphlaw04_From.l0])
  | succ k1 =>
   have H := HA.out
   clear HA
   simp only [cenotaphlaw04_From.l0] at H
   by_cases c2 : x4_1 < (l0.length : Int)
   ·rw [if_pos c2] at H
    have c2b0 : decide (x4_1 < (l0.length : Int)) = true := decide_eq_true c2
    clear c2
    by_cases c3 : 0 ≤ x4_1
    ·rw [if_pos c3] at H
     have c3b0 : decide (0 ≤ x4_1) = true := decide_eq_true c3
     clear c3
     replace H := Option.bind_eq_some_iff.mp H
     obtain ⟨⟨t333, t334⟩, A40, H⟩ := H
     have A4 := Aside0.mk A40
     clear A40
     by_cases c5 : x3_1.length < 2932031007402
     ·rw [if_pos c5] at H
      have LMc5 := Aside0.mk c5
      clear c5
      obtain ⟨y337, hy337⟩ : ∃ y_ : List (S27), y_ = (x3_1 ++ [(⟨(rd_T61 l0 x4_1).f0, (⟨t333, t334⟩ : S25)⟩ : S27)]) := ⟨_, rfl⟩
      replace H : (cenotaphlaw04_From.l0 k1 l0 y337 (wrap64 (x4_1 + 1))) = some r := by first | (rw [hy337]; with_reducible exact H) | (have H2_ := (Option.bind_some _ _).symm.trans H; rw [hy337]; with_reducible exact H2_) | (have H2_ := (Option.bind_some _ _).symm.trans H; with_reducible exact H2_) | with_reducible exact H | (rw [hy337]; exact H) | exact H
      have Ny337 := Aside0.mk hy337
      clear hy337
      have H' := Aside0.mk H
      clear H
      try go_wp2
      replace HO_3 := Aside0.mk (Kd.S_drew HO_3.out)
      replace HB := Aside0.mk (below_drew1 HB.out)
      have p331 : 0 ≤ (x4_1 : Int) := of_decide_eq_true zq15_1
      have q331 : x4_1 < (l0.length : Int) := of_decide_eq_true zq15_1
      obtain ⟨ad331, A331_2, c331_2, e331, hx331_0, hx331_1, hx331_2, hl331_2, hi331_2⟩ := at_T61 HR0.out x4_1 p331 q331
      have hw331_2 := hx331_2
      have hw331_1 := hx331_1
      have hw331_0 := hx331_0
      cases e331
      replace hx331_0 := (HB.out.cell (World.block_lt_of_cell? w _ hx331_0)).trans hx331_0
      replace hx331_1 := (HB.out.cell (World.block_lt_of_cell? w _ hx331_1)).trans hx331_1
      replace hx331_2 := (HB.out.cell (World.block_lt_of_cell? w _ hx331_2)).trans hx331_2
      have HR331_2 := Aside0.mk hi331_2
      have HC331_2 := Aside0.mk hl331_2
      clear hi331_2 hl331_2
      replace p331 := eq_true p331
      replace q331 := eq_true q331
      have p332 : 0 ≤ (x4_1 : Int) := of_decide_eq_true zq15_1
      have q332 : x4_1 < (l0.length : Int) := of_decide_eq_true zq15_1
      obtain ⟨ad332, A332_2, c332_2, e332, hx332_0, hx332_1, hx332_2, hl332_2, hi332_2⟩ := at_T61 HR0.out x4_1 p332 q332
      have hw332_2 := hx332_2
      have hw332_1 := hx332_1
      have hw332_0 := hx332_0
      obtain rfl : ad331 = ad332 := (by injection e332)
      replace hx332_0 := (HB.out.cell (World.block_lt_of_cell? w _ hx332_0)).trans hx332_0
      replace hx332_1 := (HB.out.cell (World.block_lt_of_cell? w _ hx332_1)).trans hx332_1
      replace hx332_2 := (HB.out.cell (World.block_lt_of_cell? w _ hx332_2)).trans hx332_2
      have HR332_2 := Aside0.mk hi332_2
      have HC332_2 := Aside0.mk hl332_2
      clear hi332_2 hl332_2
      replace p332 := eq_true p332
      replace q332 := eq_true q332
      have ea_ := Option.some.inj (hx331_2.symm.trans hx332_2)
      injection ea_ with ea_ en_ ec_
      subst ea_
      subst ec_
      clear en_
      refine start_ (n := 16) (S := fun w' => w'.cell? (ad331.add ((x4_1).toNat * 3)) = some (.string ((rd_T61 l0 x4_1).f0)) ∧ w'.cell? ⟨(ad331.add ((x4_1).toNat * 3)).block, (ad331.add ((x4_1).toNat * 3)).off + 1, none⟩ = some (.int .i64 ((rd_T61 l0 x4_1).f1.f0)) ∧ w'.cell? ⟨(ad331.add ((x4_1).toNat * 3)).block, (ad331.add ((x4_1).toNat * 3)).off + 2, none⟩ = some (.slice A331_2 ((rd_T61 l0 x4_1).f1.f1).length c331_2) ∧ w'.cell? (ad331.add ((x4_1).toNat * 3)) = some (.string ((rd_T61 l0 x4_1).f0)) ∧ w'.cell? ⟨(ad331.add ((x4_1).toNat * 3)).block, (ad331.add ((x4_1).toNat * 3)).off + 1, none⟩ = some (.int .i64 ((rd_T61 l0 x4_1).f1.f0)) ∧ w'.cell? ⟨(ad331.add ((x4_1).toNat * 3)).block, (ad331.add ((x4_1).toNat * 3)).off + 2, none⟩ = some (.slice A331_2 ((rd_T61 l0 x4_1).f1.f1).length c331_2)) (ds := []) #[false, false, false, false, false, false, false, false, false, false, false, false, false, false, false, false] (by kernel_rfl) rfl rfl ⟨((HB.out.cell (World.block_lt_of_cell? w _ hw331_0)).trans hw331_0), ((HB.out.cell (World.block_lt_of_cell? w _ hw331_1)).trans hw331_1), ((HB.out.cell (World.block_lt_of_cell? w _ hw331_2)).trans hw331_2), ((HB.out.cell (World.block_lt_of_cell? w _ hw332_0)).trans hw332_0), ((HB.out.cell (World.block_lt_of_cell? w _ hw332_1)).trans hw332_1), ((HB.out.cell (World.block_lt_of_cell? w _ hw332_2)).trans hw332_2)⟩ (fun hHeld => ?_); refine with_tabW cenotaphlaw04_From.tab5 cenotaphlaw04_From.bits5 (fun HT_ HW_ => ?_)
      generalize wr.drew = w6 at HO_3 HB HR331_2 HR332_2 hx331_0 hx331_1 hx331_2 hx332_0 hx332_1 hx332_2 hHeld ⊢
      refine p_ 0 11 (mk_ 16 0x1) ?_
      refine p_ 1 12 (mk_ 16 0x3) ?_
      refine p_ 2 13 (mk_ 16 0x7) ?_
      refine p_ 3 14 (mk_ 16 0xf) ?_
      refine p_ 4 15 (mk_ 16 0x1f) ?_
      refine p_ 6 17 (mk_ 16 0x5f) ?_
      refine p_ 7 18 (mk_ 16 0xdf) ?_
      refine p_ 8 19 (mk_ 16 0x1df) ?_
      refine p_ 9 20 (mk_ 16 0x3df) ?_
      refine t_ 5 16 (mk_ 16 0x3ff) hHeld ?_
      refine t_ 10 21 (mk_ 16 0x7ff) hHeld ?_
      refine one_ (i := 11) (N := some 22) #[true, true, true, true, true, true, true, true, true, true, true, true, false, false, false, false] rfl rfl (one_of HT_.out (by kernel_rfl)) (by decide) (fun K hK => ?_)
      refine goes_ Try.func19 (by kernel_rfl) rfl #[.agg #[.int .i64 ((rd_T61 l0 x4_1).f1.f0), .slice A331_2 ((rd_T61 l0 x4_1).f1.f1).length c331_2]] (by rfl) rfl rfl (by (try simp only [List.map_toArray, List.map_cons, List.map_nil]); first | done | rfl | (simp only [List.length_drop, List.length_take]; rfl)) ?_
      with_reducible refine (cenotaphlaw02_From.calls ((rd_T61 l0 x4_1).f1.f0) _ _ ((rd_T61 l0 x4_1).f1.f1) t333 t334 _ ?side1 ?side2 A4.out).mono ?_
      (case side1 => repeat (first | exact (Kd.C_below HR332_2.out HB.out) | (with_reducible refine Kd.C_alloc ?_ _) | (with_reducible refine Kd.C_drewN ?_ _) | (with_reducible refine Kd.C_drew ?_)))
      (case side2 => exact HC332_2.out)
      rintro e w7 ⟨v335, rfl, ho0, hb⟩
      refine ⟨_, rfl, ?_⟩
      replace HO_3 := Aside0.mk (Kd.S_elder' (by (with_reducible repeat (first | apply Kd.S_alloc | apply Kd.S_drewN | apply Kd.S_drew)); exact HO_3.out) (Kd.R_base ho0) hb)
      have HO336 := Aside0.mk (Kd.R_lower ho0 (below_size zq15_0))
      replace HB := Aside0.mk (below_step zq15_0 hb)
      (try clear hb)
      (try clear hb2)
      (try clear hk)
      (try clear hi)
      (try clear ho0)
      obtain ⟨Ao8, co8, eo8⟩ := Kd.R_slice HO336.out
      (first | subst eo8 | (injection eo8 with f1_ f2_ f3_; have f4_ := f1_.symm; have f5_ := f3_.symm; clear f1_ f2_ f3_; subst f4_; subst f5_))
      refine hK.out _ _ ⟨((HB.out.cell (World.block_lt_of_cell? w _ hw331_0)).trans hw331_0), ((HB.out.cell (World.block_lt_of_cell? w _ hw331_1)).trans hw331_1), ((HB.out.cell (World.block_lt_of_cell? w _ hw331_2)).trans hw331_2), ((HB.out.cell (World.block_lt_of_cell? w _ hw332_0)).trans hw332_0), ((HB.out.cell (World.block_lt_of_cell? w _ hw332_1)).trans hw332_1), ((HB.out.cell (World.block_lt_of_cell? w _ hw332_2)).trans hw332_2)⟩ (fun hHeld => ?_)
      clear hK K
      refine norm_ (a' := ?_) ?_ ?_
      rotate_left
      ·show Act.put _ (some 22) _ = _
       simp only [Act.put, List.setIfInBounds_toArray, List.set_cons_zero, List.set_cons_succ, i64_w, i32_w]
       rfl
      refine p_ 12 23 (mk_ 16 0x1fff) ?_
      refine one_ (i := 13) (N := some 24) #[true, true, true, true, true, true, true, true, true, true, true, true, true, true, false, false] rfl rfl (one_of HT_.out (by kernel_rfl)) (by decide) (fun K hK => ?_)
      refine value_ (w1 := ?_) (v := ?_) (by rfl) rfl ?_ ?_
      rotate_left 2
      ·go_simp
       constructor
       ·rfl
       ·rfl
      refine hK.out _ _ ⟨(World.cell?_alloc_lt _ _ _ (World.block_lt_of_cell? _ _ (((HB.out.cell (World.block_lt_of_cell? w _ hw331_0)).trans hw331_0)))).trans (((HB.out.cell (World.block_lt_of_cell? w _ hw331_0)).trans hw331_0)), (World.cell?_alloc_lt _ _ _ (World.block_lt_of_cell? _ _ (((HB.out.cell (World.block_lt_of_cell? w _ hw331_1)).trans hw331_1)))).trans (((HB.out.cell (World.block_lt_of_cell? w _ hw331_1)).trans hw331_1)), (World.cell?_alloc_lt _ _ _ (World.block_lt_of_cell? _ _ (((HB.out.cell (World.block_lt_of_cell? w _ hw331_2)).trans hw331_2)))).trans (((HB.out.cell (World.block_lt_of_cell? w _ hw331_2)).trans hw331_2)), (World.cell?_alloc_lt _ _ _ (World.block_lt_of_cell? _ _ (((HB.out.cell (World.block_lt_of_cell? w _ hw332_0)).trans hw332_0)))).trans (((HB.out.cell (World.block_lt_of_cell? w _ hw332_0)).trans hw332_0)), (World.cell?_alloc_lt _ _ _ (World.block_lt_of_cell? _ _ (((HB.out.cell (World.block_lt_of_cell? w _ hw332_1)).trans hw332_1)))).trans (((HB.out.cell (World.block_lt_of_cell? w _ hw332_1)).trans hw332_1)), (World.cell?_alloc_lt _ _ _ (World.block_lt_of_cell? _ _ (((HB.out.cell (World.block_lt_of_cell? w _ hw332_2)).trans hw332_2)))).trans (((HB.out.cell (World.block_lt_of_cell? w _ hw332_2)).trans hw332_2))⟩ (fun hHeld => ?_)
      clear hK K
      refine norm_ (a' := ?_) ?_ ?_
      rotate_left
      ·show Act.put _ (some 24) _ = _
       simp only [Act.put, List.setIfInBounds_toArray, List.set_cons_zero, List.set_cons_succ, i64_w, i32_w]
       rfl
      refine one_ (i := 14) (N := some 25) #[true, true, true, true, true, true, true, true, true, true, true, true, true, true, true, false] rfl rfl (one_of HT_.out (by kernel_rfl)) (by decide) (fun K hK => ?_)
      refine Kd.S_append_step k27 (w0 := w) w.heap.size (by rfl) (.tmp 11) (.tmp 24) 22 27 (.agg #[(.string ⟨#[]⟩), (.int .i64 0), (.slice none 0 0)]) 48 rfl Try.underlying22 info27 rfl (by decide) (by omega) u3 x3_1 (⟨(rd_T61 l0 x4_1).f0, (⟨t333, t334⟩ : S25)⟩ : S27) [.string ((rd_T61 l0 x4_1).f0), .int .i64 t333, .slice Ao8 t334.length co8] (fun _ => True) (fun k_ => some k_ = (.slice Ao8 t334.length co8 : Value).ownBlock) rfl rfl ?aP (fun k_ hk_ => ((Kd.R_mono (ok' := fun k_ => ((fun _ => True)) k_ ∧ some k_ ≠ (u3 : Value).ownBlock) (Kd.R_apart' (HO336.out) (Kd.S_typed HO_3.out) (by decide)) (fun k_ hk => ⟨trivial, hk.2⟩))).1 k_ hk_.symm) ?aF ?aO ?aB ?aS ?aL ?_
      (case aP => exact k27_mkM _ _ _ (⟨(rd_T61 l0 x4_1).f0, (⟨t333, t334⟩ : S25)⟩ : S27) (Kd.R_mono (Kd.R_tight rfl (Kd.R_mono (ok' := fun k_ => ((fun _ => True)) k_ ∧ some k_ ≠ (u3 : Value).ownBlock) (Kd.R_apart' (HO336.out) (Kd.S_typed HO_3.out) (by decide)) (fun k_ hk => ⟨trivial, hk.2⟩))) (fun _ h_ => h_)))
      (case aB => exact zq15_0)
      (case aF => exact (fun _ _ => trivial))
      (case aO => exact (by (with_reducible repeat (first | apply Kd.S_alloc | apply Kd.S_drewN | apply Kd.S_drew)); exact Kd.S_mono HO_3.out (fun k_ hk => ⟨trivial, fun e_ => hk.2 e_⟩)))
      (case aS => exact (below_size zq15_0))
      (case aL => have := LMc5.out; omega)
      intro v338 w9 ho hb hg hat
      rw [← Ny337.out] at ho
      replace HB := Aside0.mk (hb)
      have HO339 := Aside0.mk (ho)
      clear HO_3 HO336
      clear ho hb hg hat
      refine hK.out _ _ ⟨((HB.out.cell (World.block_lt_of_cell? w _ hw331_0)).trans hw331_0), ((HB.out.cell (World.block_lt_of_cell? w _ hw331_1)).trans hw331_1), ((HB.out.cell (World.block_lt_of_cell? w _ hw331_2)).trans hw331_2), ((HB.out.cell (World.block_lt_of_cell? w _ hw332_0)).trans hw332_0), ((HB.out.cell (World.block_lt_of_cell? w _ hw332_1)).trans hw332_1), ((HB.out.cell (World.block_lt_of_cell? w _ hw332_2)).trans hw332_2)⟩ (fun hHeld => ?_)
      clear hK K
      refine norm_ (a' := ?_) ?_ ?_
      rotate_left
      ·show Act.put _ (some 25) _ = _
       simp only [Act.put, List.setIfInBounds_toArray, List.set_cons_zero, List.set_cons_succ, i64_w, i32_w]
       rfl
      refine p_ 15 3 (mk_ 16 0xffff) ?_
      refine done_ (done_of HT_.out (by kernel_rfl)) ?_
      try go_wp2
      go_roundg k1
      case measure => have := HK1.out; omega
      case rel => exact ⟨(y337), (wrap64 (x4_1 + 1)), (by first | rfl | (simp; done) | (simp [*]; done)), H', ⟨by have := HK1.out; omega⟩, ⟨by (with_reducible repeat (first | apply Kd.S_alloc | apply Kd.S_drewN | apply Kd.S_drew)); exact HO339.out⟩, ⟨by repeat (first | (with_reducible first | exact HB.out | apply below_alloc | apply pw_below_drewN | apply below_drew1) | exact HB.out)⟩⟩
     ·rw [if_neg c5] at H
      exact absurd H (by simp)
    ·rw [if_neg c3] at H
     exact absurd H (by simp)
   ·rw [if_neg c2] at H
    have c2b0 : decide (x4_1 < (l0.length : Int)) = false := decide_eq_false c2
    clear c2
    obtain rfl := Option.some.inj H
    go_wp2
    go_ret
    exact ⟨_, by first | rfl | (simp [errW_none, errW_some] <;> rfl) | (simp [*, errW_none, errW_some] <;> rfl), by (with_reducible repeat (first | apply Kd.S_alloc | apply Kd.S_drewN | apply Kd.S_drew)); exact HO_3.out, by repeat (first | (with_reducible first | exact HB.out | apply below_alloc | apply pw_below_drewN | apply below_drew1) | exact HB.out)⟩

/-! ### cenotaphref04_Of: function 21 -/
theorem zq21_0 {p_ : Prop} (h_ : p_ := by repeat (first | (with_reducible first | exact HB.out | apply below_alloc | apply pw_below_drewN | apply below_drew1) | exact HB.out)) : p_ := h_
theorem zq21_1 {p_ : Prop} (h_ : p_ := by first | (with_reducible assumption) | assumption) : p_ := h_
def cenotaphref04_Of.l0 : Nat → List (S27) → ByteArray → Int → Option (Int × List Int)
 | 0, _, _, _ => none
 | k + 1, x0, x1, x5 => if x5 < (x0.length : Int) then (if 0 ≤ x5 then (if ((rd_T27 x0 x5).f0).toList = x1.toList then (some ((rd_T27 x0 x5).f1.f0, (rd_T27 x0 x5).f1.f1)) else (cenotaphref04_Of.l0 k x0 x1 (wrap64 (x5 + 1)))) else (none)) else (some (0, ([] : List Int)))
def cenotaphref04_Of.f (k : Nat) (l0 : List (S27)) (a1 : ByteArray) : Option (Int × List Int) := cenotaphref04_Of.l0 k l0 a1 0
theorem cenotaphref04_Of.mono_l : ∀ k, (∀ y0 y1 y2, LeO (cenotaphref04_Of.l0 k y0 y1 y2) (cenotaphref04_Of.l0 (k + 1) y0 y1 y2))
 | 0 => fun _ _ _ r h => by simp [cenotaphref04_Of.l0] at h
 | k + 1 => by
  have ih0 := cenotaphref04_Of.mono_l k
  ·intro y0 y1 y2
   unfold cenotaphref04_Of.l0
   repeat' first
   | (with_reducible exact ih0 _ _ _)
   | (with_reducible exact LeO.refl _)
   | (with_reducible exact LeO.none _)
   | (with_reducible refine LeO.ite ?_ ?_)
   | (with_reducible refine LeO.bind ?_ (fun _ => ?_))
   | exact ih0 _ _ _
   | exact LeO.none _
   | refine LeO.ite ?_ ?_
   | refine LeO.bind ?_ (fun _ => ?_)
theorem cenotaphref04_Of.mono : ∀ a0 a1 k, LeO (cenotaphref04_Of.f k a0 a1) (cenotaphref04_Of.f (k + 1) a0 a1) := by
 intro a0 a1 k
 have ih0 := cenotaphref04_Of.mono_l k
 unfold cenotaphref04_Of.f
 repeat' first
   | (with_reducible exact ih0 _ _ _)
   | (with_reducible exact LeO.refl _)
   | (with_reducible exact LeO.none _)
   | (with_reducible refine LeO.ite ?_ ?_)
   | (with_reducible refine LeO.bind ?_ (fun _ => ?_))
   | exact ih0 _ _ _
   | exact LeO.none _
   | refine LeO.ite ?_ ?_
   | refine LeO.bind ?_ (fun _ => ?_)
set_option maxHeartbeats 8000000 in
set_option maxRecDepth 100000 in
theorem cenotaphref04_Of.calls (k : Nat) (P0_ : Nat → Prop) (A0 : Option Addr) (c0 : Nat) (l0 : List (S27)) (a1 : ByteArray) (r1 : Int) (r2 : List Int) (w : World) (hs0 : Kd.V k27 27 w w.heap.size (fun k_ => P0_ k_) (.slice A0 l0.length c0) l0) (h : cenotaphref04_Of.f k l0 a1 = some (r1, r2)) :
  Calls Try.prog 21 #[.slice A0 l0.length c0, .string a1] w fun e w' => ∃ v1_ : Value, e = .returned (.agg #[.int .i64 r1, v1_]) ∧ Kd.V (Kd.int .i64) 3 w' w.heap.size (fun k_ => (P0_ k_ ∨ w.heap.size ≤ k_)) v1_ r2 ∧ Below w.heap.size w w' := by
 have hu25 := Try.underlying25
 have HO0 := Aside0.mk (show Kd.V k27 27 w w.heap.size (fun k_ => (P0_ k_ ∨ w.heap.size ≤ k_)) (.slice A0 l0.length c0) l0 from Kd.V_mono hs0 (fun k_ hk => .inl hk))
 have HB := Aside0.mk (Below.refl w.heap.size w)
 have H : (cenotaphref04_Of.l0 k l0 a1 0) = some (r1, r2) := h
 clear h
 have H' := Aside0.mk H
 clear H
 go_enter Try.func21, Try.ntmps21
 go_wp2_with (first | ((with_reducible refine gate_dst (N := 4) rfl ?_); refine box_event ?hg (N := 4) ?hd (cs := #[.int .i64 0, .slice none 0 0]) (t := 25) ?hr ?_; (case hd => rfl); (case hg => rfl); (case hr => first | (go_simp; done) | (go_simp; rfl)); intro gb340 hg w3 hbox hb; replace HO0 := Aside0.mk (Kd.V_below (Kd.V_elderB (by (with_reducible repeat (first | apply Kd.V_alloc | apply Kd.V_drewN | apply Kd.V_drew)); exact HO0.out) gb340 (Nat.le_of_eq hg.symm)) hb); have BK340 := Aside0.mk (hbox); have GW340 := Aside0.mk (((by rw [hg]; exact (below_size zq21_0)) : w.heap.size ≤ gb340)); have GE340 := Aside0.mk (((by rw [hg]; exact (below_size zq21_0)) : w.heap.size ≤ gb340)); replace HB := Aside0.mk (below_step zq21_0 hb); clear hb hbox hg))
 go_loopg [5] k (fun kq v5 w' => ∃ (x5_1 : Int) (x341000_1 : Int), v5 = .int .i64 x5_1 ∧ Aside0 (cenotaphref04_Of.l0 kq l0 a1 x5_1 = some (r1, r2)) ∧ Aside0 (kq ≤ k) ∧ Aside0 (Kd.V k27 27 w' w.heap.size (fun k_ => (P0_ k_ ∨ w.heap.size ≤ k_) ∧ k_ ≠ gb340) (.slice A0 l0.length c0) l0) ∧ Aside0 (w'.heap[gb340]? = some (.cells #[.int .i64 x341000_1, (.slice none 0 0)] 25 (0, 0))) ∧ Aside0 (Below w.heap.size w w'))
 case atStart => exact ⟨(0), (0), (by first | rfl | (simp; done) | (simp [*]; done)), H', ⟨Nat.le_refl _⟩, ⟨by (with_reducible repeat (first | apply Kd.V_alloc | apply Kd.V_drewN | apply Kd.V_drew)); exact HO0.out⟩, ⟨by (with_reducible repeat (first | refine blk_drewN ?_ _ | refine blk_drew ?_ | refine blk_alloc ?_ _)); exact BK340.out⟩, ⟨by repeat (first | (with_reducible first | exact HB.out | apply below_alloc | apply pw_below_drewN | apply below_drew1 | refine below_set ?_ GE340.out) | exact HB.out)⟩⟩
 case round =>
  clear H'
  try clear c2
  try clear p2
  obtain ⟨x5_1, x341000_1, rfl, HA, HK1, HO_0, BK340, HB⟩ := hrel
  cases gk with
  | zero => exact absurd HA.out (by simp [cenotaphref04_Of.l0])
  | succ k1 =>
   have H := HA.out
   clear HA
   simp only [cenotaphref04_Of.l0] at H
   by_cases c4 : x5_1 < (l0.length : Int)
   ·rw [if_pos c4] at H
    have c4b0 : decide (x5_1 < (l0.length : Int)) = true := decide_eq_true c4
    clear c4
    by_cases c5 : 0 ≤ x5_1
    ·rw [if_pos c5] at H
     have c5b0 : decide (0 ≤ x5_1) = true := decide_eq_true c5
     clear c5
     by_cases c6 : ((rd_T27 l0 x5_1).f0).toList = a1.toList
     ·rw [if_pos c6] at H
      have c6b0 : (((rd_T27 l0 x5_1).f0).toList == a1.toList) = true := beq_iff_eq.mpr c6
      have c6b1 : (((rd_T27 l0 x5_1).f0).toList != a1.toList) = false := bne_eq_false_iff_eq.mpr c6
      clear c6
      simp only [Option.some.injEq, Prod.mk.injEq] at H
      obtain ⟨rfl, rfl⟩ := H
      have p341 : 0 ≤ (x5_1 : Int) := of_decide_eq_true zq21_1
      have q341 : x5_1 < (l0.length : Int) := of_decide_eq_true zq21_1
      obtain ⟨ad341, A341_2, c341_2, e341, hx341_0, hx341_1, hx341_2, hl341_2, hi341_2⟩ := at_T27 (Kd.V_reads' HO_0.out).2.2 x5_1 p341 q341
      cases e341
      obtain ⟨ce341, hce341, hMe341, hcc341⟩ := Kd.V_get HO_0.out z27 x5_1 p341 (by first | exact q341 | exact of_decide_eq_true zq21_1 | (have e_ := (Kd.V_reads' HO_0.out).1; omega))
      obtain ⟨ua341_2, uc341_2, rfl, ul341_2, ge341_2⟩ := k27_openF hMe341
      have hv341_2 := hcc341 2 _ rfl
      rw [add_field _ _ 2 (by omega)] at hv341_2
      replace hv341_2 := Option.some.inj (hv341_2.symm.trans hx341_2)
      injection hv341_2 with hva_ hvn_ hvc_
      rw [hva_] at ge341_2
      rw [hvc_] at ul341_2
      have HL341_2 := Aside0.mk (show Kd.V (Kd.int .i64) 3 _ w.heap.size _ _ ((rd_T27 l0 x5_1).f1.f1) from Kd.V_mk ul341_2 ge341_2)
      clear hva_ hvn_ hvc_ ge341_2 ul341_2
      clear hcc341 hce341
      have HR341_2 := Aside0.mk hi341_2
      have HC341_2 := Aside0.mk hl341_2
      clear hi341_2 hl341_2
      replace p341 := eq_true p341
      replace q341 := eq_true q341
      have p342 : 0 ≤ (x5_1 : Int) := of_decide_eq_true zq21_1
      have q342 : x5_1 < (l0.length : Int) := of_decide_eq_true zq21_1
      obtain ⟨ad342, A342_2, c342_2, e342, hx342_0, hx342_1, hx342_2, hl342_2, hi342_2⟩ := at_T27 (Kd.V_reads' HO_0.out).2.2 x5_1 p342 q342
      obtain rfl : ad341 = ad342 := (by injection e342)
      obtain ⟨ce342, hce342, hMe342, hcc342⟩ := Kd.V_get HO_0.out z27 x5_1 p342 (by first | exact q342 | exact of_decide_eq_true zq21_1 | (have e_ := (Kd.V_reads' HO_0.out).1; omega))
      obtain ⟨ua342_2, uc342_2, rfl, ul342_2, ge342_2⟩ := k27_openF hMe342
      have hv342_2 := hcc342 2 _ rfl
      rw [add_field _ _ 2 (by omega)] at hv342_2
      replace hv342_2 := Option.some.inj (hv342_2.symm.trans hx342_2)
      injection hv342_2 with hva_ hvn_ hvc_
      rw [hva_] at ge342_2
      rw [hvc_] at ul342_2
      have HL342_2 := Aside0.mk (show Kd.V (Kd.int .i64) 3 _ w.heap.size _ _ ((rd_T27 l0 x5_1).f1.f1) from Kd.V_mk ul342_2 ge342_2)
      clear hva_ hvn_ hvc_ ge342_2 ul342_2
      clear hcc342 hce342
      have HR342_2 := Aside0.mk hi342_2
      have HC342_2 := Aside0.mk hl342_2
      clear hi342_2 hl342_2
      replace p342 := eq_true p342
      replace q342 := eq_true q342
      have ea_ := Option.some.inj (hx341_2.symm.trans hx342_2)
      injection ea_ with ea_ en_ ec_
      subst ea_
      subst ec_
      clear en_
      have hcz7_0 : wr.cell? ⟨gb340, 0, none⟩ = some (.int .i64 x341000_1) := (blk_cell BK340.out 0).trans rfl
      have hcz7_1 : wr.cell? ⟨gb340, 1, none⟩ = some (.slice none 0 0) := (blk_cell BK340.out 1).trans rfl
      have hfz7_0 := blk_frozen BK340.out 0
      have hfz7_1 := blk_frozen BK340.out 1
      go_wp2
      refine bodyPost_ret (results_cell_row rfl _ _ gb340 25 #[.int .i64 ((rd_T27 l0 x5_1).f1.f0), .slice A341_2 ((rd_T27 l0 x5_1).f1.f1).length c341_2] (0, 0) _ rfl (by (with_reducible repeat (first | refine blk_drewN ?_ _ | refine blk_drew ?_ | refine blk_alloc ?_ _)); refine blk_put (cs := #[.int .i64 ((rd_T27 l0 x5_1).f1.f0), .slice none 0 0]) ?_ 1 _ rfl; (with_reducible repeat (first | refine blk_drewN ?_ _ | refine blk_drew ?_ | refine blk_alloc ?_ _)); refine blk_put (cs := #[.int .i64 x341000_1, .slice none 0 0]) ?_ 0 _ rfl; (with_reducible repeat (first | refine blk_drewN ?_ _ | refine blk_drew ?_ | refine blk_alloc ?_ _)); exact BK340.out) Try.underlying25 rfl (by kernel_rfl)) rfl ?_
      exact ⟨_, by first | rfl | (simp [errW_none, errW_some] <;> rfl) | (simp [*, errW_none, errW_some] <;> rfl), by (with_reducible repeat (first | apply Kd.V_alloc | apply Kd.V_drewN | apply Kd.V_drew)); exact Kd.V_mono (Kd.V_far (p := ⟨gb340, 1, none⟩) (Kd.V_far (p := ⟨gb340, 0, none⟩) (Kd.V_mono HL342_2.out (fun k_ hk => (⟨hk, hk.2⟩ : _ ∧ k_ ≠ gb340))) (fun _ hk => hk.2) (.int .i64 ((rd_T27 l0 x5_1).f1.f0))) (fun _ hk => hk.2) (.slice A341_2 ((rd_T27 l0 x5_1).f1.f1).length c341_2)) (fun _ hk => hk.1.1), by repeat (first | (with_reducible first | exact HB.out | apply below_alloc | apply pw_below_drewN | apply below_drew1 | refine below_set ?_ GE340.out) | exact HB.out)⟩
     ·rw [if_neg c6] at H
      have c6b0 : (((rd_T27 l0 x5_1).f0).toList == a1.toList) = false := beq_eq_false_iff_ne.mpr c6
      have c6b1 : (((rd_T27 l0 x5_1).f0).toList != a1.toList) = true := bne_iff_ne.mpr c6
      have H' := Aside0.mk H
      clear H
      have p341 : 0 ≤ (x5_1 : Int) := of_decide_eq_true zq21_1
      have q341 : x5_1 < (l0.length : Int) := of_decide_eq_true zq21_1
      obtain ⟨ad341, A341_2, c341_2, e341, hx341_0, hx341_1, hx341_2, hl341_2, hi341_2⟩ := at_T27 (Kd.V_reads' HO_0.out).2.2 x5_1 p341 q341
      cases e341
      obtain ⟨ce341, hce341, hMe341, hcc341⟩ := Kd.V_get HO_0.out z27 x5_1 p341 (by first | exact q341 | exact of_decide_eq_true zq21_1 | (have e_ := (Kd.V_reads' HO_0.out).1; omega))
      obtain ⟨ua341_2, uc341_2, rfl, ul341_2, ge341_2⟩ := k27_openF hMe341
      have hv341_2 := hcc341 2 _ rfl
      rw [add_field _ _ 2 (by omega)] at hv341_2
      replace hv341_2 := Option.some.inj (hv341_2.symm.trans hx341_2)
      injection hv341_2 with hva_ hvn_ hvc_
      rw [hva_] at ge341_2
      rw [hvc_] at ul341_2
      have HL341_2 := Aside0.mk (show Kd.V (Kd.int .i64) 3 _ w.heap.size _ _ ((rd_T27 l0 x5_1).f1.f1) from Kd.V_mk ul341_2 ge341_2)
      clear hva_ hvn_ hvc_ ge341_2 ul341_2
      clear hcc341 hce341
      have HR341_2 := Aside0.mk hi341_2
      have HC341_2 := Aside0.mk hl341_2
      clear hi341_2 hl341_2
      replace p341 := eq_true p341
      replace q341 := eq_true q341
      go_wp2
      go_roundg k1
      case measure => have := HK1.out; omega
      case rel => exact ⟨(wrap64 (x5_1 + 1)), (x341000_1), (by first | rfl | (simp; done) | (simp [*]; done)), H', ⟨by have := HK1.out; omega⟩, ⟨by (with_reducible repeat (first | apply Kd.V_alloc | apply Kd.V_drewN | apply Kd.V_drew)); exact HO_0.out⟩, ⟨by (with_reducible repeat (first | refine blk_drewN ?_ _ | refine blk_drew ?_ | refine blk_alloc ?_ _)); exact BK340.out⟩, ⟨by repeat (first | (with_reducible first | exact HB.out | apply below_alloc | apply pw_below_drewN | apply below_drew1 | refine below_set ?_ GE340.out) | exact HB.out)⟩⟩
    ·rw [if_neg c5] at H
     exact absurd H (by simp)
   ·rw [if_neg c4] at H
    have c4b0 : decide (x5_1 < (l0.length : Int)) = false := decide_eq_false c4
    clear c4
    simp only [Option.some.injEq, Prod.mk.injEq] at H
    obtain ⟨rfl, rfl⟩ := H
    have hcz8_0 : wr.cell? ⟨gb340, 0, none⟩ = some (.int .i64 x341000_1) := (blk_cell BK340.out 0).trans rfl
    have hcz8_1 : wr.cell? ⟨gb340, 1, none⟩ = some (.slice none 0 0) := (blk_cell BK340.out 1).trans rfl
    have hfz8_0 := blk_frozen BK340.out 0
    have hfz8_1 := blk_frozen BK340.out 1
    go_wp2
    refine bodyPost_ret (results_cell_row rfl _ _ gb340 25 #[.int .i64 0, .slice none 0 0] (0, 0) _ rfl (by (with_reducible repeat (first | refine blk_drewN ?_ _ | refine blk_drew ?_ | refine blk_alloc ?_ _)); refine blk_put (cs := #[.int .i64 0, .slice none 0 0]) ?_ 1 _ rfl; (with_reducible repeat (first | refine blk_drewN ?_ _ | refine blk_drew ?_ | refine blk_alloc ?_ _)); refine blk_put (cs := #[.int .i64 x341000_1, .slice none 0 0]) ?_ 0 _ rfl; (with_reducible repeat (first | refine blk_drewN ?_ _ | refine blk_drew ?_ | refine blk_alloc ?_ _)); exact BK340.out) Try.underlying25 rfl (by kernel_rfl)) rfl ?_
    exact ⟨_, by first | rfl | (simp [errW_none, errW_some] <;> rfl) | (simp [*, errW_none, errW_some] <;> rfl), (Kd.V_nil _ _ _ _ _), by repeat (first | (with_reducible first | exact HB.out | apply below_alloc | apply pw_below_drewN | apply below_drew1 | refine below_set ?_ GE340.out) | exact HB.out)⟩

end Go.Proofs.Ytkfehkaiifjkmaa.P
