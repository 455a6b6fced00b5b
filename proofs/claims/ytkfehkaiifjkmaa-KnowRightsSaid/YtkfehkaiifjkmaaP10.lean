-- Written by a program of this session (wip/pp.py over the kit's printer, with our own texts put in).
import Derived.Test.YtkfehkaiifjkmaaP0
import Derived.Test.YtkfehkaiifjkmaaP1
import Derived.Test.YtkfehkaiifjkmaaP4
import Derived.Test.YtkfehkaiifjkmaaP7
namespace Go.Proofs.Ytkfehkaiifjkmaa.P
open Go.RowKit Go.Proofs.YtkfehkaiifjkmaaW.PrintWords Go.Proofs.YtkfehkaiifjkmaaW.PrintLast Go.Proofs.YtkfehkaiifjkmaaW.PrintMore
attribute [local go_sem] max2_int min2_int max_two min_two max_three min_three max_four min_four   -- for this text's walks alone
set_option linter.unusedVariables false
set_option linter.unusedSimpArgs false

/-! ### cenotaphref02_Right: function 40 -/
theorem zq40_0 {p_ : Prop} (h_ : p_ := by rw [hg]; exact (below_size (by repeat (first | (with_reducible first | exact HB.out | apply below_alloc | apply pw_below_drewN | apply below_drew1) | exact HB.out)))) : p_ := h_
theorem zq40_1 {p_ : Prop} (h_ : p_ := by repeat (first | (with_reducible first | exact HB.out | apply below_alloc | apply pw_below_drewN | apply below_drew1) | exact HB.out)) : p_ := h_
theorem zq40_2 {p_ : Prop} (h_ : p_ := by first | (with_reducible assumption) | assumption) : p_ := h_
theorem zq40_3 {p_ : Prop} (h_ : p_ := by first | rfl | (simp; done) | (simp [*]; done)) : p_ := h_
mutual
def cenotaphref02_Right.j0 : Nat → Bool → Int → List Int → Option (Bool)
 | 0, _, _, _ => none
 | k + 1, x18, x217000, x217001 => if x18 = true then (some false) else (cenotaphref02_Right.l0 k (wrap64 (x217000 + 1)) 0 x217000 x217001)
def cenotaphref02_Right.l0 : Nat → Int → Int → Int → List Int → Option (Bool)
 | 0, _, _, _, _ => none
 | k + 1, x3, x4, x217000, x217001 => if x4 < (x217001.length : Int) then (if 0 ≤ x4 then (if (rd x217001 x4) ≤ x3 then (if x4 > 0 then (some false) else (if (rd x217001 x4) ≤ (wrap64 (x217000 + 1)) then (some false) else (if (rd x217001 x4) > 1048576 then (some false) else (cenotaphref02_Right.l0 k (rd x217001 x4) (wrap64 (x4 + 1)) x217000 x217001)))) else (if (rd x217001 x4) > 1048576 then (some false) else (cenotaphref02_Right.l0 k (rd x217001 x4) (wrap64 (x4 + 1)) x217000 x217001))) else (none)) else (some true)
end
def cenotaphref02_Right.f (k : Nat) (a0_0 : Int) (l0_1 : List Int) : Option (Bool) := if a0_0 < 0 then (cenotaphref02_Right.j0 k true a0_0 l0_1) else (if a0_0 > 1048576 then (cenotaphref02_Right.j0 k true a0_0 l0_1) else (cenotaphref02_Right.j0 k (decide ((l0_1.length : Int) > 4096)) a0_0 l0_1))
theorem cenotaphref02_Right.mono_l : ∀ k, (∀ y0 y1 y2, LeO (cenotaphref02_Right.j0 k y0 y1 y2) (cenotaphref02_Right.j0 (k + 1) y0 y1 y2)) ∧ (∀ y0 y1 y2 y3, LeO (cenotaphref02_Right.l0 k y0 y1 y2 y3) (cenotaphref02_Right.l0 (k + 1) y0 y1 y2 y3))
 | 0 => ⟨fun _ _ _ r h => by simp [cenotaphref02_Right.j0] at h, fun _ _ _ _ r h => by simp [cenotaphref02_Right.l0] at h⟩
 | k + 1 => by
  obtain ⟨ih0, ih1⟩ := cenotaphref02_Right.mono_l k
  refine ⟨?_, ?_⟩
  ·intro y0 y1 y2
   unfold cenotaphref02_Right.j0
   repeat' first
   | (with_reducible exact ih0 _ _ _)
   | (with_reducible exact ih1 _ _ _ _)
   | (with_reducible exact LeO.refl _)
   | (with_reducible exact LeO.none _)
   | (with_reducible refine LeO.ite ?_ ?_)
   | (with_reducible refine LeO.bind ?_ (fun _ => ?_))
   | exact ih0 _ _ _
   | exact ih1 _ _ _ _
   | exact LeO.none _
   | refine LeO.ite ?_ ?_
   | refine LeO.bind ?_ (fun _ => ?_)
  ·intro y0 y1 y2 y3
   unfold cenotaphref02_Right.l0
   repeat' first
   | (with_reducible exact ih0 _ _ _)
   | (with_reducible exact ih1 _ _ _ _)
   | (with_reducible exact LeO.refl _)
   | (with_reducible exact LeO.none _)
   | (with_reducible refine LeO.ite ?_ ?_)
   | (with_reducible refine LeO.bind ?_ (fun _ => ?_))
   | exact ih0 _ _ _
   | exact ih1 _ _ _ _
   | exact LeO.none _
   | refine LeO.ite ?_ ?_
   | refine LeO.bind ?_ (fun _ => ?_)
theorem cenotaphref02_Right.mono : ∀ a0 a1 k, LeO (cenotaphref02_Right.f k a0 a1) (cenotaphref02_Right.f (k + 1) a0 a1) := by
 intro a0 a1 k
 obtain ⟨ih0, ih1⟩ := cenotaphref02_Right.mono_l k
 unfold cenotaphref02_Right.f
 repeat' first
   | (with_reducible exact ih0 _ _ _)
   | (with_reducible exact ih1 _ _ _ _)
   | (with_reducible exact LeO.refl _)
   | (with_reducible exact LeO.none _)
   | (with_reducible refine LeO.ite ?_ ?_)
   | (with_reducible refine LeO.bind ?_ (fun _ => ?_))
   | exact ih0 _ _ _
   | exact ih1 _ _ _ _
   | exact LeO.none _
   | refine LeO.ite ?_ ?_
   | refine LeO.bind ?_ (fun _ => ?_)
set_option maxHeartbeats 8000000 in
set_option maxRecDepth 100000 in
theorem cenotaphref02_Right.calls (k : Nat) (a0_0 : Int) (A0_1 : Option Addr) (c0_1 : Nat) (l0_1 : List Int) (r : Bool) (w : World) (hr0_1 : Kd.C (Kd.int .i64) w A0_1 l0_1.length l0_1) (hc0_1 : l0_1.length ≤ c0_1) (h : cenotaphref02_Right.f k a0_0 l0_1 = some r) :
  Calls Try.prog 40 #[.agg #[.int .i64 a0_0, .slice A0_1 l0_1.length c0_1]] w fun e w' => e = .returned (.bool r) ∧ Below w.heap.size w w' := by
 have hu25 := Try.underlying25
 have HR0_1 := Aside0.mk hr0_1
 have HC0_1 := Aside0.mk hc0_1
 clear hr0_1 hc0_1
 have HB := Aside0.mk (Below.refl w.heap.size w)
 have H := h
 unfold cenotaphref02_Right.f at H
 clear h
 have HC2 := Aside0.mk H
 clear H
 go_enter Try.func40, Try.ntmps40
 go_upto_region 1 with (first | ((with_reducible refine gate_dst (N := 1) rfl ?_); (try (refine gate_guard (by rfl) ?_; dsimp only)); refine box_event ?hg (N := 1) ?hd (cs := #[.int .i64 a0_0, .slice A0_1 l0_1.length c0_1]) (t := 25) ?hr ?_; (case hd => rfl); (case hg => rfl); (case hr => first | (go_simp; done) | (go_simp; rfl)); intro gb216 hg w3 hbox hb; have BK216 := Aside0.mk (hbox); have GW216 := Aside0.mk ((zq40_0 : w.heap.size ≤ gb216)); have GE216 := Aside0.mk ((zq40_0 : w.heap.size ≤ gb216)); replace HB := Aside0.mk (below_step zq40_1 hb); clear hb hbox hg))
 repeat (go_quiet (first | ((with_reducible refine gate_dst (N := 1) rfl ?_); (try (refine gate_guard (by rfl) ?_; dsimp only)); refine box_event ?hg (N := 1) ?hd (cs := #[.int .i64 a0_0, .slice A0_1 l0_1.length c0_1]) (t := 25) ?hr ?_; (case hd => rfl); (case hg => rfl); (case hr => first | (go_simp; done) | (go_simp; rfl)); intro gb216 hg w3 hbox hb; have BK216 := Aside0.mk (hbox); have GW216 := Aside0.mk ((zq40_0 : w.heap.size ≤ gb216)); have GE216 := Aside0.mk ((zq40_0 : w.heap.size ≤ gb216)); replace HB := Aside0.mk (below_step zq40_1 hb); clear hb hbox hg)); go_upto_region 1 with (first | ((with_reducible refine gate_dst (N := 1) rfl ?_); (try (refine gate_guard (by rfl) ?_; dsimp only)); refine box_event ?hg (N := 1) ?hd (cs := #[.int .i64 a0_0, .slice A0_1 l0_1.length c0_1]) (t := 25) ?hr ?_; (case hd => rfl); (case hg => rfl); (case hr => first | (go_simp; done) | (go_simp; rfl)); intro gb216 hg w3 hbox hb; have BK216 := Aside0.mk (hbox); have GW216 := Aside0.mk ((zq40_0 : w.heap.size ≤ gb216)); have GE216 := Aside0.mk ((zq40_0 : w.heap.size ≤ gb216)); replace HB := Aside0.mk (below_step zq40_1 hb); clear hb hbox hg)))
 (try simp only [Act.put, List.setIfInBounds_toArray, List.set_cons_zero, List.set_cons_succ])
 go_cut [18] (fun v18 wc => ∃ (kq : Nat) (x18_1 : Bool), v18 = .bool x18_1 ∧ Aside0 (cenotaphref02_Right.j0 kq x18_1 a0_0 l0_1 = some r) ∧ Aside0 (kq ≤ k) ∧ Aside0 (wc.heap[gb216]? = some (.cells #[.int .i64 a0_0, (.slice A0_1 l0_1.length c0_1)] 25 (0, 0))) ∧ Aside0 (Below w.heap.size w wc))
 case first =>
  have H := HC2.out
  clear HC2
  by_cases c4 : a0_0 < 0
  ·rw [if_pos c4] at H
   have c4b0 : decide (a0_0 < 0) = true := decide_eq_true c4
   clear c4
   (first | rw [c4b0] | (simp only [i64_w, i32_w]; rw [c4b0]) | skip)
   have H' := Aside0.mk H
   clear H
   have hcz5_0 : w3.cell? ⟨gb216, 0, none⟩ = some (.int .i64 a0_0) := (blk_cell BK216.out 0).trans rfl
   have hcz5_1 : w3.cell? ⟨gb216, 1, none⟩ = some (.slice A0_1 l0_1.length c0_1) := (blk_cell BK216.out 1).trans rfl
   have hfz5_0 := blk_frozen BK216.out 0
   have hfz5_1 := blk_frozen BK216.out 1
   go_wp2
   repeat (go_quiet (fail); try go_wp2)
   go_meet
   case rel => exact ⟨_, (true), zq40_3, H', ⟨by first | omega | exact Nat.le_refl _⟩, ⟨by (with_reducible repeat (first | refine blk_drewN ?_ _ | refine blk_drew ?_ | refine blk_alloc ?_ _)); exact BK216.out⟩, ⟨by repeat (first | (with_reducible first | exact HB.out | apply below_alloc | apply pw_below_drewN | apply below_drew1 | refine below_set ?_ GE216.out) | exact HB.out)⟩⟩
  ·rw [if_neg c4] at H
   have c4b0 : decide (a0_0 < 0) = false := decide_eq_false c4
   clear c4
   (first | rw [c4b0] | (simp only [i64_w, i32_w]; rw [c4b0]) | skip)
   by_cases c6 : a0_0 > 1048576
   ·rw [if_pos c6] at H
    have c6b0 : decide (1048576 < a0_0) = true := decide_eq_true c6
    clear c6
    have H' := Aside0.mk H
    clear H
    have hcz7_0 : w3.cell? ⟨gb216, 0, none⟩ = some (.int .i64 a0_0) := (blk_cell BK216.out 0).trans rfl
    have hcz7_1 : w3.cell? ⟨gb216, 1, none⟩ = some (.slice A0_1 l0_1.length c0_1) := (blk_cell BK216.out 1).trans rfl
    have hfz7_0 := blk_frozen BK216.out 0
    have hfz7_1 := blk_frozen BK216.out 1
    go_wp2
    repeat (go_quiet (fail); try go_wp2)
    go_meet
    case rel => exact ⟨_, (true), zq40_3, H', ⟨by first | omega | exact Nat.le_refl _⟩, ⟨by (with_reducible repeat (first | refine blk_drewN ?_ _ | refine blk_drew ?_ | refine blk_alloc ?_ _)); exact BK216.out⟩, ⟨by repeat (first | (with_reducible first | exact HB.out | apply below_alloc | apply pw_below_drewN | apply below_drew1 | refine below_set ?_ GE216.out) | exact HB.out)⟩⟩
   ·rw [if_neg c6] at H
    have c6b0 : decide (1048576 < a0_0) = false := decide_eq_false c6
    clear c6
    have H' := Aside0.mk H
    clear H
    have hcz8_0 : w3.cell? ⟨gb216, 0, none⟩ = some (.int .i64 a0_0) := (blk_cell BK216.out 0).trans rfl
    have hcz8_1 : w3.cell? ⟨gb216, 1, none⟩ = some (.slice A0_1 l0_1.length c0_1) := (blk_cell BK216.out 1).trans rfl
    have hfz8_0 := blk_frozen BK216.out 0
    have hfz8_1 := blk_frozen BK216.out 1
    go_wp2
    repeat (go_quiet (fail); try go_wp2)
    go_meet
    case rel => exact ⟨_, (decide ((l0_1.length : Int) > 4096)), zq40_3, H', ⟨by first | omega | exact Nat.le_refl _⟩, ⟨by (with_reducible repeat (first | refine blk_drewN ?_ _ | refine blk_drew ?_ | refine blk_alloc ?_ _)); exact BK216.out⟩, ⟨by repeat (first | (with_reducible first | exact HB.out | apply below_alloc | apply pw_below_drewN | apply below_drew1 | refine below_set ?_ GE216.out) | exact HB.out)⟩⟩
 case rest =>
  clear HC2
  try clear p2
  try clear c4
  try clear c4b0
  try clear c6
  try clear c6b0
  try clear hcz5_0
  try clear hcz5_1
  try clear hcz7_0
  try clear hcz7_1
  try clear hcz8_0
  try clear hcz8_1
  try clear hfz5_0
  try clear hfz5_1
  try clear hfz7_0
  try clear hfz7_1
  try clear hfz8_0
  try clear hfz8_1
  obtain ⟨kq, x18_1, rfl, HA, HJ1, BK216, HB⟩ := hcut
  cases kq with
  | zero => exact absurd HA.out (by simp [cenotaphref02_Right.j0])
  | succ kj1 =>
   have H := HA.out
   clear HA
   simp only [cenotaphref02_Right.j0] at H
   by_cases c9 : x18_1 = true
   ·subst c9
    have H1 : (some false) = some r := by rw [if_pos rfl] at H; exact H
    clear H
    have H := H1
    clear H1
    obtain rfl := Option.some.inj H
    go_wp2
    repeat (go_quiet (fail); try go_wp2)
    go_ret
    exact ⟨by first | rfl | (simp [errW_none, errW_some] <;> rfl) | (simp [*, errW_none, errW_some] <;> rfl), by repeat (first | (with_reducible first | exact HB.out | apply below_alloc | apply pw_below_drewN | apply below_drew1 | refine below_set ?_ GE216.out) | exact HB.out)⟩
   ·replace c9 := Bool.eq_false_iff.mpr c9
    subst c9
    have H1 : (cenotaphref02_Right.l0 kj1 (wrap64 (a0_0 + 1)) 0 a0_0 l0_1) = some r := by rw [if_neg (show ¬ (false = true) by decide)] at H; exact H
    clear H
    have H := H1
    clear H1
    have H' := Aside0.mk H
    clear H
    have hcz10_0 : wc.cell? ⟨gb216, 0, none⟩ = some (.int .i64 a0_0) := (blk_cell BK216.out 0).trans rfl
    have hcz10_1 : wc.cell? ⟨gb216, 1, none⟩ = some (.slice A0_1 l0_1.length c0_1) := (blk_cell BK216.out 1).trans rfl
    have hfz10_0 := blk_frozen BK216.out 0
    have hfz10_1 := blk_frozen BK216.out 1
    go_wp2
    repeat (go_quiet (fail); try go_wp2)
    go_loopg [3, 4] kj1 (fun kq v3 v4 w' => ∃ (x3_2 : Int) (x4_2 : Int), v3 = .int .i64 x3_2 ∧ v4 = .int .i64 x4_2 ∧ Aside0 (cenotaphref02_Right.l0 kq x3_2 x4_2 a0_0 l0_1 = some r) ∧ Aside0 (kq ≤ kj1) ∧ Aside0 (w'.heap[gb216]? = some (.cells #[.int .i64 a0_0, (.slice A0_1 l0_1.length c0_1)] 25 (0, 0))) ∧ Aside0 (Below w.heap.size w w'))
    case atStart => exact ⟨(wrap64 (a0_0 + 1)), (0), zq40_3, zq40_3, H', ⟨Nat.le_refl _⟩, ⟨by (with_reducible repeat (first | refine blk_drewN ?_ _ | refine blk_drew ?_ | refine blk_alloc ?_ _)); exact BK216.out⟩, ⟨by repeat (first | (with_reducible first | exact HB.out | apply below_alloc | apply pw_below_drewN | apply below_drew1 | refine below_set ?_ GE216.out) | exact HB.out)⟩⟩
    case round =>
     clear H'
     try clear p2
     try clear c4
     try clear c4b0
     try clear c6
     try clear c6b0
     try clear p6
     try clear c9
     try clear hcz10_0
     try clear hcz10_1
     try clear hcz5_0
     try clear hcz5_1
     try clear hcz7_0
     try clear hcz7_1
     try clear hcz8_0
     try clear hcz8_1
     try clear hfz10_0
     try clear hfz10_1
     try clear hfz5_0
     try clear hfz5_1
     try clear hfz7_0
     try clear hfz7_1
     try clear hfz8_0
     try clear hfz8_1
     try clear p2
     obtain ⟨x3_2, x4_2, rfl, rfl, HA, HK2, BK216, HB⟩ := hrel
     cases gk with
     | zero => exact absurd HA.out (by simp [cenotaphref02_Right.l0])
     | succ k2 =>
      have H := HA.out
      clear HA
      simp only [cenotaphref02_Right.l0] at H
      by_cases c11 : x4_2 < (l0_1.length : Int)
      ·rw [if_pos c11] at H
       have c11b0 : decide (x4_2 < (l0_1.length : Int)) = true := decide_eq_true c11
       clear c11
       by_cases c12 : 0 ≤ x4_2
       ·rw [if_pos c12] at H
        have c12b0 : decide (0 ≤ x4_2) = true := decide_eq_true c12
        clear c12
        by_cases c13 : (rd l0_1 x4_2) ≤ x3_2
        ·rw [if_pos c13] at H
         have c13b0 : decide ((rd l0_1 x4_2) ≤ x3_2) = true := decide_eq_true c13
         clear c13
         by_cases c14 : x4_2 > 0
         ·rw [if_pos c14] at H
          have c14b0 : decide (0 < x4_2) = true := decide_eq_true c14
          clear c14
          obtain rfl := Option.some.inj H
          have hcz15_0 : wr.cell? ⟨gb216, 0, none⟩ = some (.int .i64 a0_0) := (blk_cell BK216.out 0).trans rfl
          have hcz15_1 : wr.cell? ⟨gb216, 1, none⟩ = some (.slice A0_1 l0_1.length c0_1) := (blk_cell BK216.out 1).trans rfl
          have hfz15_0 := blk_frozen BK216.out 0
          have hfz15_1 := blk_frozen BK216.out 1
          have p217 : 0 ≤ (x4_2 : Int) := of_decide_eq_true zq40_2
          have q217 : x4_2 < (l0_1.length : Int) := of_decide_eq_true zq40_2
          obtain ⟨ad217, e217, hx217_0⟩ := Kd.at_int HR0_1.out x4_2 p217 q217
          cases e217
          replace hx217_0 := (HB.out.cell (World.block_lt_of_cell? w _ hx217_0)).trans hx217_0
          replace p217 := eq_true p217
          replace q217 := eq_true q217
          go_wp2
          repeat (go_quiet (fail); try go_wp2)
          go_ret
          exact ⟨by first | rfl | (simp [errW_none, errW_some] <;> rfl) | (simp [*, errW_none, errW_some] <;> rfl), by repeat (first | (with_reducible first | exact HB.out | apply below_alloc | apply pw_below_drewN | apply below_drew1 | refine below_set ?_ GE216.out) | exact HB.out)⟩
         ·rw [if_neg c14] at H
          have c14b0 : decide (0 < x4_2) = false := decide_eq_false c14
          clear c14
          by_cases c16 : (rd l0_1 x4_2) ≤ (wrap64 (a0_0 + 1))
          ·rw [if_pos c16] at H
           have c16b0 : decide ((rd l0_1 x4_2) ≤ (wrap64 (a0_0 + 1))) = true := decide_eq_true c16
           clear c16
           obtain rfl := Option.some.inj H
           have hcz17_0 : wr.cell? ⟨gb216, 0, none⟩ = some (.int .i64 a0_0) := (blk_cell BK216.out 0).trans rfl
           have hcz17_1 : wr.cell? ⟨gb216, 1, none⟩ = some (.slice A0_1 l0_1.length c0_1) := (blk_cell BK216.out 1).trans rfl
           have hfz17_0 := blk_frozen BK216.out 0
           have hfz17_1 := blk_frozen BK216.out 1
           have p217 : 0 ≤ (x4_2 : Int) := of_decide_eq_true zq40_2
           have q217 : x4_2 < (l0_1.length : Int) := of_decide_eq_true zq40_2
           obtain ⟨ad217, e217, hx217_0⟩ := Kd.at_int HR0_1.out x4_2 p217 q217
           cases e217
           replace hx217_0 := (HB.out.cell (World.block_lt_of_cell? w _ hx217_0)).trans hx217_0
           replace p217 := eq_true p217
           replace q217 := eq_true q217
           have p218 : 0 ≤ (x4_2 : Int) := of_decide_eq_true zq40_2
           have q218 : x4_2 < (l0_1.length : Int) := of_decide_eq_true zq40_2
           obtain ⟨ad218, e218, hx218_0⟩ := Kd.at_int HR0_1.out x4_2 p218 q218
           obtain rfl : ad217 = ad218 := (by injection e218)
           replace hx218_0 := (HB.out.cell (World.block_lt_of_cell? w _ hx218_0)).trans hx218_0
           replace p218 := eq_true p218
           replace q218 := eq_true q218
           go_wp2
           repeat (go_quiet (fail); try go_wp2)
           go_ret
           exact ⟨by first | rfl | (simp [errW_none, errW_some] <;> rfl) | (simp [*, errW_none, errW_some] <;> rfl), by repeat (first | (with_reducible first | exact HB.out | apply below_alloc | apply pw_below_drewN | apply below_drew1 | refine below_set ?_ GE216.out) | exact HB.out)⟩
          ·rw [if_neg c16] at H
           have c16b0 : decide ((rd l0_1 x4_2) ≤ (wrap64 (a0_0 + 1))) = false := decide_eq_false c16
           clear c16
           by_cases c18 : (rd l0_1 x4_2) > 1048576
           ·rw [if_pos c18] at H
            have c18b0 : decide (1048576 < (rd l0_1 x4_2)) = true := decide_eq_true c18
            clear c18
            obtain rfl := Option.some.inj H
            have hcz19_0 : wr.cell? ⟨gb216, 0, none⟩ = some (.int .i64 a0_0) := (blk_cell BK216.out 0).trans rfl
            have hcz19_1 : wr.cell? ⟨gb216, 1, none⟩ = some (.slice A0_1 l0_1.length c0_1) := (blk_cell BK216.out 1).trans rfl
            have hfz19_0 := blk_frozen BK216.out 0
            have hfz19_1 := blk_frozen BK216.out 1
            have p217 : 0 ≤ (x4_2 : Int) := of_decide_eq_true zq40_2
            have q217 : x4_2 < (l0_1.length : Int) := of_decide_eq_true zq40_2
            obtain ⟨ad217, e217, hx217_0⟩ := Kd.at_int HR0_1.out x4_2 p217 q217
            cases e217
            replace hx217_0 := (HB.out.cell (World.block_lt_of_cell? w _ hx217_0)).trans hx217_0
            replace p217 := eq_true p217
            replace q217 := eq_true q217
            have p218 : 0 ≤ (x4_2 : Int) := of_decide_eq_true zq40_2
            have q218 : x4_2 < (l0_1.length : Int) := of_decide_eq_true zq40_2
            obtain ⟨ad218, e218, hx218_0⟩ := Kd.at_int HR0_1.out x4_2 p218 q218
            obtain rfl : ad217 = ad218 := (by injection e218)
            replace hx218_0 := (HB.out.cell (World.block_lt_of_cell? w _ hx218_0)).trans hx218_0
            replace p218 := eq_true p218
            replace q218 := eq_true q218
            have p219 : 0 ≤ (x4_2 : Int) := of_decide_eq_true zq40_2
            have q219 : x4_2 < (l0_1.length : Int) := of_decide_eq_true zq40_2
            obtain ⟨ad219, e219, hx219_0⟩ := Kd.at_int HR0_1.out x4_2 p219 q219
            obtain rfl : ad217 = ad219 := (by injection e219)
            replace hx219_0 := (HB.out.cell (World.block_lt_of_cell? w _ hx219_0)).trans hx219_0
            replace p219 := eq_true p219
            replace q219 := eq_true q219
            go_wp2
            repeat (go_quiet (fail); try go_wp2)
            go_ret
            exact ⟨by first | rfl | (simp [errW_none, errW_some] <;> rfl) | (simp [*, errW_none, errW_some] <;> rfl), by repeat (first | (with_reducible first | exact HB.out | apply below_alloc | apply pw_below_drewN | apply below_drew1 | refine below_set ?_ GE216.out) | exact HB.out)⟩
           ·rw [if_neg c18] at H
            have c18b0 : decide (1048576 < (rd l0_1 x4_2)) = false := decide_eq_false c18
            clear c18
            have H' := Aside0.mk H
            clear H
            have hcz20_0 : wr.cell? ⟨gb216, 0, none⟩ = some (.int .i64 a0_0) := (blk_cell BK216.out 0).trans rfl
            have hcz20_1 : wr.cell? ⟨gb216, 1, none⟩ = some (.slice A0_1 l0_1.length c0_1) := (blk_cell BK216.out 1).trans rfl
            have hfz20_0 := blk_frozen BK216.out 0
            have hfz20_1 := blk_frozen BK216.out 1
            have p217 : 0 ≤ (x4_2 : Int) := of_decide_eq_true zq40_2
            have q217 : x4_2 < (l0_1.length : Int) := of_decide_eq_true zq40_2
            obtain ⟨ad217, e217, hx217_0⟩ := Kd.at_int HR0_1.out x4_2 p217 q217
            cases e217
            replace hx217_0 := (HB.out.cell (World.block_lt_of_cell? w _ hx217_0)).trans hx217_0
            replace p217 := eq_true p217
            replace q217 := eq_true q217
            have p218 : 0 ≤ (x4_2 : Int) := of_decide_eq_true zq40_2
            have q218 : x4_2 < (l0_1.length : Int) := of_decide_eq_true zq40_2
            obtain ⟨ad218, e218, hx218_0⟩ := Kd.at_int HR0_1.out x4_2 p218 q218
            obtain rfl : ad217 = ad218 := (by injection e218)
            replace hx218_0 := (HB.out.cell (World.block_lt_of_cell? w _ hx218_0)).trans hx218_0
            replace p218 := eq_true p218
            replace q218 := eq_true q218
            have p219 : 0 ≤ (x4_2 : Int) := of_decide_eq_true zq40_2
            have q219 : x4_2 < (l0_1.length : Int) := of_decide_eq_true zq40_2
            obtain ⟨ad219, e219, hx219_0⟩ := Kd.at_int HR0_1.out x4_2 p219 q219
            obtain rfl : ad217 = ad219 := (by injection e219)
            replace hx219_0 := (HB.out.cell (World.block_lt_of_cell? w _ hx219_0)).trans hx219_0
            replace p219 := eq_true p219
            replace q219 := eq_true q219
            have p220 : 0 ≤ (x4_2 : Int) := of_decide_eq_true zq40_2
            have q220 : x4_2 < (l0_1.length : Int) := of_decide_eq_true zq40_2
            obtain ⟨ad220, e220, hx220_0⟩ := Kd.at_int HR0_1.out x4_2 p220 q220
            obtain rfl : ad217 = ad220 := (by injection e220)
            replace hx220_0 := (HB.out.cell (World.block_lt_of_cell? w _ hx220_0)).trans hx220_0
            replace p220 := eq_true p220
            replace q220 := eq_true q220
            go_wp2
            repeat (go_quiet (fail); try go_wp2)
            go_roundg k2
            case measure => have := HJ1.out; have := HK2.out; omega
            case rel => exact ⟨(rd l0_1 x4_2), (wrap64 (x4_2 + 1)), zq40_3, zq40_3, H', ⟨by have := HJ1.out; have := HK2.out; omega⟩, ⟨by (with_reducible repeat (first | refine blk_drewN ?_ _ | refine blk_drew ?_ | refine blk_alloc ?_ _)); exact BK216.out⟩, ⟨by repeat (first | (with_reducible first | exact HB.out | apply below_alloc | apply pw_below_drewN | apply below_drew1 | refine below_set ?_ GE216.out) | exact HB.out)⟩⟩
        ·rw [if_neg c13] at H
         have c13b0 : decide ((rd l0_1 x4_2) ≤ x3_2) = false := decide_eq_false c13
         clear c13
         by_cases c21 : (rd l0_1 x4_2) > 1048576
         ·rw [if_pos c21] at H
          have c21b0 : decide (1048576 < (rd l0_1 x4_2)) = true := decide_eq_true c21
          clear c21
          obtain rfl := Option.some.inj H
          have hcz22_0 : wr.cell? ⟨gb216, 0, none⟩ = some (.int .i64 a0_0) := (blk_cell BK216.out 0).trans rfl
          have hcz22_1 : wr.cell? ⟨gb216, 1, none⟩ = some (.slice A0_1 l0_1.length c0_1) := (blk_cell BK216.out 1).trans rfl
          have hfz22_0 := blk_frozen BK216.out 0
          have hfz22_1 := blk_frozen BK216.out 1
          have p217 : 0 ≤ (x4_2 : Int) := of_decide_eq_true zq40_2
          have q217 : x4_2 < (l0_1.length : Int) := of_decide_eq_true zq40_2
          obtain ⟨ad217, e217, hx217_0⟩ := Kd.at_int HR0_1.out x4_2 p217 q217
          cases e217
          replace hx217_0 := (HB.out.cell (World.block_lt_of_cell? w _ hx217_0)).trans hx217_0
          replace p217 := eq_true p217
          replace q217 := eq_true q217
          have p221 : 0 ≤ (x4_2 : Int) := of_decide_eq_true zq40_2
          have q221 : x4_2 < (l0_1.length : Int) := of_decide_eq_true zq40_2
          obtain ⟨ad221, e221, hx221_0⟩ := Kd.at_int HR0_1.out x4_2 p221 q221
          obtain rfl : ad217 = ad221 := (by injection e221)
          replace hx221_0 := (HB.out.cell (World.block_lt_of_cell? w _ hx221_0)).trans hx221_0
          replace p221 := eq_true p221
          replace q221 := eq_true q221
          go_wp2
          repeat (go_quiet (fail); try go_wp2)
          go_ret
          exact ⟨by first | rfl | (simp [errW_none, errW_some] <;> rfl) | (simp [*, errW_none, errW_some] <;> rfl), by repeat (first | (with_reducible first | exact HB.out | apply below_alloc | apply pw_below_drewN | apply below_drew1 | refine below_set ?_ GE216.out) | exact HB.out)⟩
         ·rw [if_neg c21] at H
          have c21b0 : decide (1048576 < (rd l0_1 x4_2)) = false := decide_eq_false c21
          clear c21
          have H' := Aside0.mk H
          clear H
          have hcz23_0 : wr.cell? ⟨gb216, 0, none⟩ = some (.int .i64 a0_0) := (blk_cell BK216.out 0).trans rfl
          have hcz23_1 : wr.cell? ⟨gb216, 1, none⟩ = some (.slice A0_1 l0_1.length c0_1) := (blk_cell BK216.out 1).trans rfl
          have hfz23_0 := blk_frozen BK216.out 0
          have hfz23_1 := blk_frozen BK216.out 1
          have p217 : 0 ≤ (x4_2 : Int) := of_decide_eq_true zq40_2
          have q217 : x4_2 < (l0_1.length : Int) := of_decide_eq_true zq40_2
          obtain ⟨ad217, e217, hx217_0⟩ := Kd.at_int HR0_1.out x4_2 p217 q217
          cases e217
          replace hx217_0 := (HB.out.cell (World.block_lt_of_cell? w _ hx217_0)).trans hx217_0
          replace p217 := eq_true p217
          replace q217 := eq_true q217
          have p221 : 0 ≤ (x4_2 : Int) := of_decide_eq_true zq40_2
          have q221 : x4_2 < (l0_1.length : Int) := of_decide_eq_true zq40_2
          obtain ⟨ad221, e221, hx221_0⟩ := Kd.at_int HR0_1.out x4_2 p221 q221
          obtain rfl : ad217 = ad221 := (by injection e221)
          replace hx221_0 := (HB.out.cell (World.block_lt_of_cell? w _ hx221_0)).trans hx221_0
          replace p221 := eq_true p221
          replace q221 := eq_true q221
          have p222 : 0 ≤ (x4_2 : Int) := of_decide_eq_true zq40_2
          have q222 : x4_2 < (l0_1.length : Int) := of_decide_eq_true zq40_2
          obtain ⟨ad222, e222, hx222_0⟩ := Kd.at_int HR0_1.out x4_2 p222 q222
          obtain rfl : ad217 = ad222 := (by injection e222)
          replace hx222_0 := (HB.out.cell (World.block_lt_of_cell? w _ hx222_0)).trans hx222_0
          replace p222 := eq_true p222
          replace q222 := eq_true q222
          go_wp2
          repeat (go_quiet (fail); try go_wp2)
          go_roundg k2
          case measure => have := HJ1.out; have := HK2.out; omega
          case rel => exact ⟨(rd l0_1 x4_2), (wrap64 (x4_2 + 1)), zq40_3, zq40_3, H', ⟨by have := HJ1.out; have := HK2.out; omega⟩, ⟨by (with_reducible repeat (first | refine blk_drewN ?_ _ | refine blk_drew ?_ | refine blk_alloc ?_ _)); exact BK216.out⟩, ⟨by repeat (first | (with_reducible first | exact HB.out | apply below_alloc | apply pw_below_drewN | apply below_drew1 | refine below_set ?_ GE216.out) | exact HB.out)⟩⟩
       ·rw [if_neg c12] at H
        exact absurd H (by simp)
      ·rw [if_neg c11] at H
       have c11b0 : decide (x4_2 < (l0_1.length : Int)) = false := decide_eq_false c11
       clear c11
       obtain rfl := Option.some.inj H
       have hcz24_0 : wr.cell? ⟨gb216, 0, none⟩ = some (.int .i64 a0_0) := (blk_cell BK216.out 0).trans rfl
       have hcz24_1 : wr.cell? ⟨gb216, 1, none⟩ = some (.slice A0_1 l0_1.length c0_1) := (blk_cell BK216.out 1).trans rfl
       have hfz24_0 := blk_frozen BK216.out 0
       have hfz24_1 := blk_frozen BK216.out 1
       go_wp2
       repeat (go_quiet (fail); try go_wp2)
       go_ret
       exact ⟨by first | rfl | (simp [errW_none, errW_some] <;> rfl) | (simp [*, errW_none, errW_some] <;> rfl), by repeat (first | (with_reducible first | exact HB.out | apply below_alloc | apply pw_below_drewN | apply below_drew1 | refine below_set ?_ GE216.out) | exact HB.out)⟩

/-! ### cenotaphref04_Right: function 10 -/
theorem zq10_0 {p_ : Prop} (h_ : p_ := by (try simp only [List.map_toArray, List.map_cons, List.map_nil]); first | done | rfl | (simp only [List.length_drop, List.length_take]; rfl)) : p_ := h_
theorem zq10_1 {p_ : Prop} (h_ : p_ := by repeat (first | (with_reducible first | exact HB.out | apply below_alloc | apply pw_below_drewN | apply below_drew1) | exact HB.out)) : p_ := h_
theorem zq10_2 {p_ : Prop} (h_ : p_ := by first | (with_reducible assumption) | assumption) : p_ := h_
theorem zq10_3 {p_ : Prop} (h_ : p_ := by first | rfl | (simp; done) | (simp [*]; done)) : p_ := h_
def cenotaphref04_Right.l0 : Nat → List (S27) → Int → Option (Bool)
 | 0, _, _ => none
 | k + 1, x0, x3 => if x3 < (x0.length : Int) then (if 0 ≤ x3 then ((cenotaphref01_Right.f k ((rd_T27 x0 x3).f0)).bind fun t225 => (if t225 = true then ((cenotaphref02_Right.f k ((rd_T27 x0 x3).f1.f0) ((rd_T27 x0 x3).f1.f1)).bind fun t227 => (if t227 = true then ((cenotaphref02_Count.f ((rd_T27 x0 x3).f1.f0) ((rd_T27 x0 x3).f1.f1)).bind fun t229 => (if t229 < 1 then (some false) else (if x3 > 0 then (if 0 ≤ (wrap64 (x3 - 1)) then (if (wrap64 (x3 - 1)) < (x0.length : Int) then ((cenotaphref01_Compare.f k ((rd_T27 x0 (wrap64 (x3 - 1))).f0) ((rd_T27 x0 x3).f0)).bind fun t232 => (if t232 ≥ 0 then (some false) else (cenotaphref04_Right.l0 k x0 (wrap64 (x3 + 1))))) else (none)) else (none)) else (cenotaphref04_Right.l0 k x0 (wrap64 (x3 + 1)))))) else (some false))) else (some false))) else (none)) else (some true)
def cenotaphref04_Right.f (k : Nat) (l0 : List (S27)) : Option (Bool) := cenotaphref04_Right.l0 k l0 0
theorem cenotaphref04_Right.mono_l : ∀ k, (∀ y0 y1, LeO (cenotaphref04_Right.l0 k y0 y1) (cenotaphref04_Right.l0 (k + 1) y0 y1))
 | 0 => fun _ _ r h => by simp [cenotaphref04_Right.l0] at h
 | k + 1 => by
  have ih0 := cenotaphref04_Right.mono_l k
  ·intro y0 y1
   unfold cenotaphref04_Right.l0
   repeat' first
   | (with_reducible exact ih0 _ _)
   | (with_reducible exact cenotaphref01_Compare.mono _ _ _)
   | (with_reducible exact cenotaphref01_Right.mono _ _)
   | (with_reducible exact cenotaphref02_Right.mono _ _ _)
   | (with_reducible exact LeO.refl _)
   | (with_reducible exact LeO.none _)
   | (with_reducible refine LeO.ite ?_ ?_)
   | (with_reducible refine LeO.bind ?_ (fun _ => ?_))
   | exact ih0 _ _
   | exact cenotaphref01_Compare.mono _ _ _
   | exact cenotaphref01_Right.mono _ _
   | exact cenotaphref02_Right.mono _ _ _
   | exact LeO.none _
   | refine LeO.ite ?_ ?_
   | refine LeO.bind ?_ (fun _ => ?_)
theorem cenotaphref04_Right.mono : ∀ a0 k, LeO (cenotaphref04_Right.f k a0) (cenotaphref04_Right.f (k + 1) a0) := by
 intro a0 k
 have ih0 := cenotaphref04_Right.mono_l k
 unfold cenotaphref04_Right.f
 repeat' first
   | (with_reducible exact ih0 _ _)
   | (with_reducible exact cenotaphref01_Compare.mono _ _ _)
   | (with_reducible exact cenotaphref01_Right.mono _ _)
   | (with_reducible exact cenotaphref02_Right.mono _ _ _)
   | (with_reducible exact LeO.refl _)
   | (with_reducible exact LeO.none _)
   | (with_reducible refine LeO.ite ?_ ?_)
   | (with_reducible refine LeO.bind ?_ (fun _ => ?_))
   | exact ih0 _ _
   | exact cenotaphref01_Compare.mono _ _ _
   | exact cenotaphref01_Right.mono _ _
   | exact cenotaphref02_Right.mono _ _ _
   | exact LeO.none _
   | refine LeO.ite ?_ ?_
   | refine LeO.bind ?_ (fun _ => ?_)
def cenotaphref04_Right.T4 : Bool × List (List Nat × List Nat) := (true, [([], []), ([], []), ([0, 1], [0, 1]), ([2], [2]), ([3], [3]), ([4], [4]), ([5], [5]), ([6, 5], [6]), ([7], [7]), ([7], [7]), ([8, 9, 7], [7, 8, 9]), ([10, 7], [7, 10]), ([11, 7], [7, 11]), ([12, 7, 7], [7, 12]), ([13, 7], [7, 13]), ([7, 14], [7, 14]), ([15, 13], [15]), ([16], [16]), ([16], [16]), ([17, 18, 16], [16, 17, 18]), ([19, 16], [16, 19]), ([20, 16], [16, 20]), ([21, 16, 16], [16, 21]), ([22, 16], [16, 22]), ([16, 23], [16, 23]), ([24, 22], [24]), ([25], [25]), ([26, 25], [25, 26]), ([27, 25, 25], [25, 27]), ([28], [28]), ([28], [28]), ([30, 28], [28, 30]), ([29, 31, 28], [28, 29, 31]), ([32, 28], [28, 32]), ([33, 28], [28, 33]), ([28], [28]), ([28], [28]), ([35, 36, 28], [28, 35, 36]), ([37, 28], [28, 37]), ([38, 28], [28, 38]), ([34, 39, 28, 28], [28, 34, 39]), ([40, 28], [28, 40]), ([28, 41, 25], [25, 28, 41]), ([25, 42], [25, 42])])
def cenotaphref04_Right.B4 : List Nat := [0, 0, 3, 7, 15, 31, 63, 127, 255, 255, 1023, 2047, 4095, 8191, 16383, 32767, 65535, 131071, 131071, 524287, 1048575, 2097151, 4194303, 8388607, 16777215, 33554431, 67108863, 134217727, 268435455, 536870911, 536870911, 1610612735, 4294967295, 8589934591, 17179869183, 536870911, 536870911, 103616086015, 241055039487, 515932946431, 1099511627775, 2199023255551, 4398046511103, 8796093022207]
theorem cenotaphref04_Right.tab4 : rtab .any (opsOf Try.f10 4) = cenotaphref04_Right.T4 := by kernel_rfl
theorem cenotaphref04_Right.bits4 : waitsOk cenotaphref04_Right.T4.2 cenotaphref04_Right.B4 = true := by kernel_rfl
set_option maxHeartbeats 8000000 in
set_option maxRecDepth 100000 in
theorem cenotaphref04_Right.calls (k : Nat) (A0 : Option Addr) (c0 : Nat) (l0 : List (S27)) (r : Bool) (w : World) (hr0 : Kd.C k27 w A0 l0.length l0) (hc0 : l0.length ≤ c0) (h : cenotaphref04_Right.f k l0 = some r) :
  Calls Try.prog 10 #[.slice A0 l0.length c0] w fun e w' => e = .returned (.bool r) ∧ Below w.heap.size w w' := by
 have hu25 := Try.underlying25
 have HR0 := Aside0.mk hr0
 have HC0 := Aside0.mk hc0
 clear hr0 hc0
 have HB := Aside0.mk (Below.refl w.heap.size w)
 have H : (cenotaphref04_Right.l0 k l0 0) = some r := h
 clear h
 have H' := Aside0.mk H
 clear H
 go_enter Try.func10, Try.ntmps10
 go_wp2
 go_loopg [3] k (fun kq v3 w' => ∃ (x3_1 : Int), v3 = .int .i64 x3_1 ∧ Aside0 (cenotaphref04_Right.l0 kq l0 x3_1 = some r) ∧ Aside0 (kq ≤ k) ∧ Aside0 (Below w.heap.size w w'))
 case atStart => exact ⟨(0), zq10_3, H', ⟨Nat.le_refl _⟩, ⟨by repeat (first | (with_reducible first | exact HB.out | apply below_alloc | apply pw_below_drewN | apply below_drew1) | exact HB.out)⟩⟩
 case round =>
  clear H'
  try clear c1
  obtain ⟨x3_1, rfl, HA, HK1, HB⟩ := hrel
  cases gk with
  | zero => exact absurd HA.out (by simp [cenotaphref04_Right.l0])
  | succ k1 =>
   have H := HA.out
   clear HA
   simp only [cenotaphref04_Right.l0] at H
   by_cases c2 : x3_1 < (l0.length : Int)
   ·rw [if_pos c2] at H
    have c2b0 : decide (x3_1 < (l0.length : Int)) = true := decide_eq_true c2
    clear c2
    by_cases c3 : 0 ≤ x3_1
    ·rw [if_pos c3] at H
     have c3b0 : decide (0 ≤ x3_1) = true := decide_eq_true c3
     clear c3
     replace H := Option.bind_eq_some_iff.mp H
     obtain ⟨t225, A40, H⟩ := H
     have A4 := Aside0.mk A40
     clear A40
     by_cases c5 : t225 = true
     ·subst c5
      have H1 : ((cenotaphref02_Right.f k1 ((rd_T27 l0 x3_1).f1.f0) ((rd_T27 l0 x3_1).f1.f1)).bind fun t227 => (if t227 = true then ((cenotaphref02_Count.f ((rd_T27 l0 x3_1).f1.f0) ((rd_T27 l0 x3_1).f1.f1)).bind fun t229 => (if t229 < 1 then (some false) else (if x3_1 > 0 then (if 0 ≤ (wrap64 (x3_1 - 1)) then (if (wrap64 (x3_1 - 1)) < (l0.length : Int) then ((cenotaphref01_Compare.f k1 ((rd_T27 l0 (wrap64 (x3_1 - 1))).f0) ((rd_T27 l0 x3_1).f0)).bind fun t232 => (if t232 ≥ 0 then (some false) else (cenotaphref04_Right.l0 k1 l0 (wrap64 (x3_1 + 1))))) else (none)) else (none)) else (cenotaphref04_Right.l0 k1 l0 (wrap64 (x3_1 + 1)))))) else (some false))) = some r := by rw [if_pos rfl] at H; exact H
      clear H
      have H := H1
      clear H1
      replace H := Option.bind_eq_some_iff.mp H
      obtain ⟨t227, A60, H⟩ := H
      have A6 := Aside0.mk A60
      clear A60
      by_cases c7 : t227 = true
      ·subst c7
       have H1 : ((cenotaphref02_Count.f ((rd_T27 l0 x3_1).f1.f0) ((rd_T27 l0 x3_1).f1.f1)).bind fun t229 => (if t229 < 1 then (some false) else (if x3_1 > 0 then (if 0 ≤ (wrap64 (x3_1 - 1)) then (if (wrap64 (x3_1 - 1)) < (l0.length : Int) then ((cenotaphref01_Compare.f k1 ((rd_T27 l0 (wrap64 (x3_1 - 1))).f0) ((rd_T27 l0 x3_1).f0)).bind fun t232 => (if t232 ≥ 0 then (some false) else (cenotaphref04_Right.l0 k1 l0 (wrap64 (x3_1 + 1))))) else (none)) else (none)) else (cenotaphref04_Right.l0 k1 l0 (wrap64 (x3_1 + 1)))))) = some r := by rw [if_pos rfl] at H; exact H
       clear H
       have H := H1
       clear H1
       replace H := Option.bind_eq_some_iff.mp H
       obtain ⟨t229, A80, H⟩ := H
       have A8 := Aside0.mk A80
       clear A80
       by_cases c9 : t229 < 1
       ·rw [if_pos c9] at H
        have c9b0 : decide (t229 < 1) = true := decide_eq_true c9
        clear c9
        obtain rfl := Option.some.inj H
        try go_wp2
        replace HB := Aside0.mk (below_drew1 HB.out)
        have p224 : 0 ≤ (x3_1 : Int) := of_decide_eq_true zq10_2
        have q224 : x3_1 < (l0.length : Int) := of_decide_eq_true zq10_2
        obtain ⟨ad224, A224_2, c224_2, e224, hx224_0, hx224_1, hx224_2, hl224_2, hi224_2⟩ := at_T27 HR0.out x3_1 p224 q224
        have hw224_2 := hx224_2
        have hw224_1 := hx224_1
        have hw224_0 := hx224_0
        cases e224
        replace hx224_0 := (HB.out.cell (World.block_lt_of_cell? w _ hx224_0)).trans hx224_0
        replace hx224_1 := (HB.out.cell (World.block_lt_of_cell? w _ hx224_1)).trans hx224_1
        replace hx224_2 := (HB.out.cell (World.block_lt_of_cell? w _ hx224_2)).trans hx224_2
        have HR224_2 := Aside0.mk hi224_2
        have HC224_2 := Aside0.mk hl224_2
        clear hi224_2 hl224_2
        replace p224 := eq_true p224
        replace q224 := eq_true q224
        have p226 : 0 ≤ (x3_1 : Int) := of_decide_eq_true zq10_2
        have q226 : x3_1 < (l0.length : Int) := of_decide_eq_true zq10_2
        obtain ⟨ad226, A226_2, c226_2, e226, hx226_0, hx226_1, hx226_2, hl226_2, hi226_2⟩ := at_T27 HR0.out x3_1 p226 q226
        have hw226_2 := hx226_2
        have hw226_1 := hx226_1
        have hw226_0 := hx226_0
        obtain rfl : ad224 = ad226 := (by injection e226)
        replace hx226_0 := (HB.out.cell (World.block_lt_of_cell? w _ hx226_0)).trans hx226_0
        replace hx226_1 := (HB.out.cell (World.block_lt_of_cell? w _ hx226_1)).trans hx226_1
        replace hx226_2 := (HB.out.cell (World.block_lt_of_cell? w _ hx226_2)).trans hx226_2
        have HR226_2 := Aside0.mk hi226_2
        have HC226_2 := Aside0.mk hl226_2
        clear hi226_2 hl226_2
        replace p226 := eq_true p226
        replace q226 := eq_true q226
        have ea_ := Option.some.inj (hx224_2.symm.trans hx226_2)
        injection ea_ with ea_ en_ ec_
        subst ea_
        subst ec_
        clear en_
        have p228 : 0 ≤ (x3_1 : Int) := of_decide_eq_true zq10_2
        have q228 : x3_1 < (l0.length : Int) := of_decide_eq_true zq10_2
        obtain ⟨ad228, A228_2, c228_2, e228, hx228_0, hx228_1, hx228_2, hl228_2, hi228_2⟩ := at_T27 HR0.out x3_1 p228 q228
        have hw228_2 := hx228_2
        have hw228_1 := hx228_1
        have hw228_0 := hx228_0
        obtain rfl : ad224 = ad228 := (by injection e228)
        replace hx228_0 := (HB.out.cell (World.block_lt_of_cell? w _ hx228_0)).trans hx228_0
        replace hx228_1 := (HB.out.cell (World.block_lt_of_cell? w _ hx228_1)).trans hx228_1
        replace hx228_2 := (HB.out.cell (World.block_lt_of_cell? w _ hx228_2)).trans hx228_2
        have HR228_2 := Aside0.mk hi228_2
        have HC228_2 := Aside0.mk hl228_2
        clear hi228_2 hl228_2
        replace p228 := eq_true p228
        replace q228 := eq_true q228
        have ea_ := Option.some.inj (hx224_2.symm.trans hx228_2)
        injection ea_ with ea_ en_ ec_
        subst ea_
        subst ec_
        clear en_
        refine start_ (n := 44) (S := fun w' => w'.cell? (ad224.add ((x3_1).toNat * 3)) = some (.string ((rd_T27 l0 x3_1).f0)) ∧ w'.cell? ⟨(ad224.add ((x3_1).toNat * 3)).block, (ad224.add ((x3_1).toNat * 3)).off + 1, none⟩ = some (.int .i64 ((rd_T27 l0 x3_1).f1.f0)) ∧ w'.cell? ⟨(ad224.add ((x3_1).toNat * 3)).block, (ad224.add ((x3_1).toNat * 3)).off + 2, none⟩ = some (.slice A224_2 ((rd_T27 l0 x3_1).f1.f1).length c224_2) ∧ w'.cell? (ad224.add ((x3_1).toNat * 3)) = some (.string ((rd_T27 l0 x3_1).f0)) ∧ w'.cell? ⟨(ad224.add ((x3_1).toNat * 3)).block, (ad224.add ((x3_1).toNat * 3)).off + 1, none⟩ = some (.int .i64 ((rd_T27 l0 x3_1).f1.f0)) ∧ w'.cell? ⟨(ad224.add ((x3_1).toNat * 3)).block, (ad224.add ((x3_1).toNat * 3)).off + 2, none⟩ = some (.slice A224_2 ((rd_T27 l0 x3_1).f1.f1).length c224_2) ∧ w'.cell? (ad224.add ((x3_1).toNat * 3)) = some (.string ((rd_T27 l0 x3_1).f0)) ∧ w'.cell? ⟨(ad224.add ((x3_1).toNat * 3)).block, (ad224.add ((x3_1).toNat * 3)).off + 1, none⟩ = some (.int .i64 ((rd_T27 l0 x3_1).f1.f0)) ∧ w'.cell? ⟨(ad224.add ((x3_1).toNat * 3)).block, (ad224.add ((x3_1).toNat * 3)).off + 2, none⟩ = some (.slice A224_2 ((rd_T27 l0 x3_1).f1.f1).length c224_2)) (ds := []) #[false, false, false, false, false, false, false, false, false, false, false, false, false, false, false, false, false, false, false, false, false, false, false, false, false, false, false, false, false, false, false, false, false, false, false, false, false, false, false, false, false, false, false, false] (by kernel_rfl) rfl rfl ⟨((HB.out.cell (World.block_lt_of_cell? w _ hw224_0)).trans hw224_0), ((HB.out.cell (World.block_lt_of_cell? w _ hw224_1)).trans hw224_1), ((HB.out.cell (World.block_lt_of_cell? w _ hw224_2)).trans hw224_2), ((HB.out.cell (World.block_lt_of_cell? w _ hw226_0)).trans hw226_0), ((HB.out.cell (World.block_lt_of_cell? w _ hw226_1)).trans hw226_1), ((HB.out.cell (World.block_lt_of_cell? w _ hw226_2)).trans hw226_2), ((HB.out.cell (World.block_lt_of_cell? w _ hw228_0)).trans hw228_0), ((HB.out.cell (World.block_lt_of_cell? w _ hw228_1)).trans hw228_1), ((HB.out.cell (World.block_lt_of_cell? w _ hw228_2)).trans hw228_2)⟩ (fun hHeld => ?_); refine with_tabW cenotaphref04_Right.tab4 cenotaphref04_Right.bits4 (fun HT_ HW_ => ?_)
        generalize wr.drew = w10 at HB HR224_2 HR226_2 HR228_2 hx224_0 hx224_1 hx224_2 hx226_0 hx226_1 hx226_2 hx228_0 hx228_1 hx228_2 hHeld ⊢
        refine p_ 0 10 (mk_ 44 0x1) ?_
        refine p_ 1 11 (mk_ 44 0x3) ?_
        refine p_ 2 12 (mk_ 44 0x7) ?_
        refine p_ 3 13 (mk_ 44 0xf) ?_
        refine t_ 4 14 (mk_ 44 0x1f) hHeld ?_
        refine one_ (i := 5) (N := some 15) #[true, true, true, true, true, true, false, false, false, false, false, false, false, false, false, false, false, false, false, false, false, false, false, false, false, false, false, false, false, false, false, false, false, false, false, false, false, false, false, false, false, false, false, false] rfl rfl (one_of HT_.out (by kernel_rfl)) (by decide) (fun K hK => ?_)
        refine goes_ Try.func39 (by kernel_rfl) rfl #[.string ((rd_T27 l0 x3_1).f0)] (by rfl) rfl rfl zq10_0 ?_
        with_reducible refine (cenotaphref01_Right.calls k1 ((rd_T27 l0 x3_1).f0) true _ A4.out).mono ?_
        rintro e w' ⟨rfl, ⟨nd, rfl⟩⟩
        refine ⟨_, rfl, ?_⟩
        refine hK.out _ _ ⟨((HB.out.cell (World.block_lt_of_cell? w _ hw224_0)).trans hw224_0), ((HB.out.cell (World.block_lt_of_cell? w _ hw224_1)).trans hw224_1), ((HB.out.cell (World.block_lt_of_cell? w _ hw224_2)).trans hw224_2), ((HB.out.cell (World.block_lt_of_cell? w _ hw226_0)).trans hw226_0), ((HB.out.cell (World.block_lt_of_cell? w _ hw226_1)).trans hw226_1), ((HB.out.cell (World.block_lt_of_cell? w _ hw226_2)).trans hw226_2), ((HB.out.cell (World.block_lt_of_cell? w _ hw228_0)).trans hw228_0), ((HB.out.cell (World.block_lt_of_cell? w _ hw228_1)).trans hw228_1), ((HB.out.cell (World.block_lt_of_cell? w _ hw228_2)).trans hw228_2)⟩ (fun hHeld => ?_)
        clear hK K
        refine norm_ (a' := ?_) ?_ ?_
        rotate_left
        ·show Act.put _ (some 15) _ = _
         simp only [Act.put, List.setIfInBounds_toArray, List.set_cons_zero, List.set_cons_succ, i64_w, i32_w]
         rfl
        refine p_ 6 16 (mk_ 44 0x7f) ?_
        refine p_ 7 17 (mk_ 44 0xff) ?_
        refine p_ 8 18 (mk_ 44 0x1ff) ?_
        refine p_ 9 19 (mk_ 44 0x3ff) ?_
        refine p_ 10 20 (mk_ 44 0x7ff) ?_
        refine p_ 11 21 (mk_ 44 0xfff) ?_
        refine t_ 12 22 (mk_ 44 0x1fff) hHeld ?_
        refine one_ (i := 13) (N := some 23) #[true, true, true, true, true, true, true, true, true, true, true, true, true, true, false, false, false, false, false, false, false, false, false, false, false, false, false, false, false, false, false, false, false, false, false, false, false, false, false, false, false, false, false, false] rfl rfl (one_of HT_.out (by kernel_rfl)) (by decide) (fun K hK => ?_)
        refine goes_ Try.func40 (by kernel_rfl) rfl #[.agg #[.int .i64 ((rd_T27 l0 x3_1).f1.f0), .slice A224_2 ((rd_T27 l0 x3_1).f1.f1).length c224_2]] (by rfl) rfl rfl zq10_0 ?_
        with_reducible refine (cenotaphref02_Right.calls k1 ((rd_T27 l0 x3_1).f1.f0) _ _ ((rd_T27 l0 x3_1).f1.f1) true _ ?side1 ?side2 A6.out).mono ?_
        (case side1 => repeat (first | exact (Kd.C_below HR226_2.out zq10_1) | (with_reducible refine Kd.C_alloc ?_ _) | (with_reducible refine Kd.C_drewN ?_ _) | (with_reducible refine Kd.C_drew ?_)))
        (case side2 => exact HC226_2.out)
        rintro e w11 ⟨rfl, hb⟩
        refine ⟨_, rfl, ?_⟩
        replace HB := Aside0.mk (below_step zq10_1 hb)
        (try clear hb)
        (try clear hb2)
        (try clear hk)
        (try clear hi)
        refine hK.out _ _ ⟨((HB.out.cell (World.block_lt_of_cell? w _ hw224_0)).trans hw224_0), ((HB.out.cell (World.block_lt_of_cell? w _ hw224_1)).trans hw224_1), ((HB.out.cell (World.block_lt_of_cell? w _ hw224_2)).trans hw224_2), ((HB.out.cell (World.block_lt_of_cell? w _ hw226_0)).trans hw226_0), ((HB.out.cell (World.block_lt_of_cell? w _ hw226_1)).trans hw226_1), ((HB.out.cell (World.block_lt_of_cell? w _ hw226_2)).trans hw226_2), ((HB.out.cell (World.block_lt_of_cell? w _ hw228_0)).trans hw228_0), ((HB.out.cell (World.block_lt_of_cell? w _ hw228_1)).trans hw228_1), ((HB.out.cell (World.block_lt_of_cell? w _ hw228_2)).trans hw228_2)⟩ (fun hHeld => ?_)
        clear hK K
        refine norm_ (a' := ?_) ?_ ?_
        rotate_left
        ·show Act.put _ (some 23) _ = _
         simp only [Act.put, List.setIfInBounds_toArray, List.set_cons_zero, List.set_cons_succ, i64_w, i32_w]
         rfl
        refine p_ 14 24 (mk_ 44 0x7fff) ?_
        refine p_ 15 25 (mk_ 44 0xffff) ?_
        refine p_ 16 26 (mk_ 44 0x1ffff) ?_
        refine p_ 17 27 (mk_ 44 0x3ffff) ?_
        refine p_ 18 28 (mk_ 44 0x7ffff) ?_
        refine p_ 19 29 (mk_ 44 0xfffff) ?_
        refine p_ 20 30 (mk_ 44 0x1fffff) ?_
        refine t_ 21 31 (mk_ 44 0x3fffff) hHeld ?_
        refine one_ (i := 22) (N := some 32) #[true, true, true, true, true, true, true, true, true, true, true, true, true, true, true, true, true, true, true, true, true, true, true, false, false, false, false, false, false, false, false, false, false, false, false, false, false, false, false, false, false, false, false, false] rfl rfl (one_of HT_.out (by kernel_rfl)) (by decide) (fun K hK => ?_)
        refine goes_ Try.func41 (by kernel_rfl) rfl #[.agg #[.int .i64 ((rd_T27 l0 x3_1).f1.f0), .slice A224_2 ((rd_T27 l0 x3_1).f1.f1).length c224_2]] (by rfl) rfl rfl zq10_0 ?_
        with_reducible refine (cenotaphref02_Count.calls ((rd_T27 l0 x3_1).f1.f0) _ _ ((rd_T27 l0 x3_1).f1.f1) t229 _ ?side1 ?side2 A8.out).mono ?_
        (case side1 => repeat (first | exact (Kd.C_below HR228_2.out HB.out) | (with_reducible refine Kd.C_alloc ?_ _) | (with_reducible refine Kd.C_drewN ?_ _) | (with_reducible refine Kd.C_drew ?_)))
        (case side2 => exact HC228_2.out)
        rintro e w12 ⟨rfl, hb⟩
        refine ⟨_, rfl, ?_⟩
        replace HB := Aside0.mk (below_step zq10_1 hb)
        (try clear hb)
        (try clear hb2)
        (try clear hk)
        (try clear hi)
        refine hK.out _ _ ⟨((HB.out.cell (World.block_lt_of_cell? w _ hw224_0)).trans hw224_0), ((HB.out.cell (World.block_lt_of_cell? w _ hw224_1)).trans hw224_1), ((HB.out.cell (World.block_lt_of_cell? w _ hw224_2)).trans hw224_2), ((HB.out.cell (World.block_lt_of_cell? w _ hw226_0)).trans hw226_0), ((HB.out.cell (World.block_lt_of_cell? w _ hw226_1)).trans hw226_1), ((HB.out.cell (World.block_lt_of_cell? w _ hw226_2)).trans hw226_2), ((HB.out.cell (World.block_lt_of_cell? w _ hw228_0)).trans hw228_0), ((HB.out.cell (World.block_lt_of_cell? w _ hw228_1)).trans hw228_1), ((HB.out.cell (World.block_lt_of_cell? w _ hw228_2)).trans hw228_2)⟩ (fun hHeld => ?_)
        clear hK K
        refine norm_ (a' := ?_) ?_ ?_
        rotate_left
        ·show Act.put _ (some 32) _ = _
         simp only [Act.put, List.setIfInBounds_toArray, List.set_cons_zero, List.set_cons_succ, i64_w, i32_w]
         rfl
        refine p_ 23 33 (mk_ 44 0xffffff) ?_
        refine p_ 24 34 (mk_ 44 0x1ffffff) ?_
        refine p_ 25 35 (mk_ 44 0x3ffffff) ?_
        refine u_ 26 36 (mk_ 44 0x7ffffff) ?_
        refine u_ 27 37 (mk_ 44 0xfffffff) ?_
        refine u_ 28 38 (mk_ 44 0x1fffffff) ?_
        refine u_ 29 39 (mk_ 44 0x3fffffff) ?_
        refine u_ 30 40 (mk_ 44 0x7fffffff) ?_
        refine u_ 31 41 (mk_ 44 0xffffffff) ?_
        refine u_ 32 42 (mk_ 44 0x1ffffffff) ?_
        refine u_ 33 43 (mk_ 44 0x3ffffffff) ?_
        refine u_ 34 44 (mk_ 44 0x7ffffffff) ?_
        refine u_ 35 45 (mk_ 44 0xfffffffff) ?_
        refine u_ 36 46 (mk_ 44 0x1fffffffff) ?_
        refine u_ 37 47 (mk_ 44 0x3fffffffff) ?_
        refine u_ 38 48 (mk_ 44 0x7fffffffff) ?_
        refine u_ 39 49 (mk_ 44 0xffffffffff) ?_
        refine u_ 40 50 (mk_ 44 0x1ffffffffff) ?_
        refine u_ 41 51 (mk_ 44 0x3ffffffffff) ?_
        refine u_ 42 52 (mk_ 44 0x7ffffffffff) ?_
        refine p_ 43 53 (mk_ 44 0xfffffffffff) ?_
        refine done_ (done_of HT_.out (by kernel_rfl)) ?_
        try go_wp2
        go_ret
        exact ⟨by first | rfl | (simp [errW_none, errW_some] <;> rfl) | (simp [*, errW_none, errW_some] <;> rfl), by repeat (first | (with_reducible first | exact HB.out | apply below_alloc | apply pw_below_drewN | apply below_drew1) | exact HB.out)⟩
       ·rw [if_neg c9] at H
        have c9b0 : decide (t229 < 1) = false := decide_eq_false c9
        clear c9
        by_cases c13 : x3_1 > 0
        ·rw [if_pos c13] at H
         have c13b0 : decide (0 < x3_1) = true := decide_eq_true c13
         clear c13
         obtain ⟨ji14, hji14⟩ : ∃ j_ : Int, (wrap64 (x3_1 - 1)) = j_ := ⟨_, rfl⟩
         replace H : (if 0 ≤ (ji14) then (if (ji14) < (l0.length : Int) then ((cenotaphref01_Compare.f k1 ((rd_T27 l0 (ji14)).f0) ((rd_T27 l0 x3_1).f0)).bind fun t232 => (if t232 ≥ 0 then (some false) else (cenotaphref04_Right.l0 k1 l0 (wrap64 (x3_1 + 1))))) else (none)) else (none)) = some r := by first | (rw [hji14] at H; exact H) | (simp only [hji14] at H ⊢; exact H)
         (try rw [hji14] at A4)
         (try rw [hji14] at A6)
         (try rw [hji14] at A8)
         have hji14w : (IntKind.i64.wrap (x3_1 - 1)) = ji14 := (i64_w _).trans hji14
         by_cases c15 : 0 ≤ (ji14)
         ·rw [if_pos c15] at H
          have c15b0 : decide (0 ≤ (ji14)) = true := decide_eq_true c15
          clear c15
          by_cases c16 : (ji14) < (l0.length : Int)
          ·rw [if_pos c16] at H
           have c16b0 : decide ((ji14) < (l0.length : Int)) = true := decide_eq_true c16
           clear c16
           replace H := Option.bind_eq_some_iff.mp H
           obtain ⟨t232, A170, H⟩ := H
           have A17 := Aside0.mk A170
           clear A170
           by_cases c18 : t232 ≥ 0
           ·rw [if_pos c18] at H
            have c18b0 : decide (0 ≤ t232) = true := decide_eq_true c18
            clear c18
            obtain rfl := Option.some.inj H
            try go_wp2
            replace HB := Aside0.mk (below_drew1 HB.out)
            have p224 : 0 ≤ (x3_1 : Int) := of_decide_eq_true zq10_2
            have q224 : x3_1 < (l0.length : Int) := of_decide_eq_true zq10_2
            obtain ⟨ad224, A224_2, c224_2, e224, hx224_0, hx224_1, hx224_2, hl224_2, hi224_2⟩ := at_T27 HR0.out x3_1 p224 q224
            have hw224_2 := hx224_2
            have hw224_1 := hx224_1
            have hw224_0 := hx224_0
            cases e224
            replace hx224_0 := (HB.out.cell (World.block_lt_of_cell? w _ hx224_0)).trans hx224_0
            replace hx224_1 := (HB.out.cell (World.block_lt_of_cell? w _ hx224_1)).trans hx224_1
            replace hx224_2 := (HB.out.cell (World.block_lt_of_cell? w _ hx224_2)).trans hx224_2
            have HR224_2 := Aside0.mk hi224_2
            have HC224_2 := Aside0.mk hl224_2
            clear hi224_2 hl224_2
            replace p224 := eq_true p224
            replace q224 := eq_true q224
            have p226 : 0 ≤ (x3_1 : Int) := of_decide_eq_true zq10_2
            have q226 : x3_1 < (l0.length : Int) := of_decide_eq_true zq10_2
            obtain ⟨ad226, A226_2, c226_2, e226, hx226_0, hx226_1, hx226_2, hl226_2, hi226_2⟩ := at_T27 HR0.out x3_1 p226 q226
            have hw226_2 := hx226_2
            have hw226_1 := hx226_1
            have hw226_0 := hx226_0
            obtain rfl : ad224 = ad226 := (by injection e226)
            replace hx226_0 := (HB.out.cell (World.block_lt_of_cell? w _ hx226_0)).trans hx226_0
            replace hx226_1 := (HB.out.cell (World.block_lt_of_cell? w _ hx226_1)).trans hx226_1
            replace hx226_2 := (HB.out.cell (World.block_lt_of_cell? w _ hx226_2)).trans hx226_2
            have HR226_2 := Aside0.mk hi226_2
            have HC226_2 := Aside0.mk hl226_2
            clear hi226_2 hl226_2
            replace p226 := eq_true p226
            replace q226 := eq_true q226
            have ea_ := Option.some.inj (hx224_2.symm.trans hx226_2)
            injection ea_ with ea_ en_ ec_
            subst ea_
            subst ec_
            clear en_
            have p228 : 0 ≤ (x3_1 : Int) := of_decide_eq_true zq10_2
            have q228 : x3_1 < (l0.length : Int) := of_decide_eq_true zq10_2
            obtain ⟨ad228, A228_2, c228_2, e228, hx228_0, hx228_1, hx228_2, hl228_2, hi228_2⟩ := at_T27 HR0.out x3_1 p228 q228
            have hw228_2 := hx228_2
            have hw228_1 := hx228_1
            have hw228_0 := hx228_0
            obtain rfl : ad224 = ad228 := (by injection e228)
            replace hx228_0 := (HB.out.cell (World.block_lt_of_cell? w _ hx228_0)).trans hx228_0
            replace hx228_1 := (HB.out.cell (World.block_lt_of_cell? w _ hx228_1)).trans hx228_1
            replace hx228_2 := (HB.out.cell (World.block_lt_of_cell? w _ hx228_2)).trans hx228_2
            have HR228_2 := Aside0.mk hi228_2
            have HC228_2 := Aside0.mk hl228_2
            clear hi228_2 hl228_2
            replace p228 := eq_true p228
            replace q228 := eq_true q228
            have ea_ := Option.some.inj (hx224_2.symm.trans hx228_2)
            injection ea_ with ea_ en_ ec_
            subst ea_
            subst ec_
            clear en_
            have p230 : 0 ≤ ((ji14) : Int) := of_decide_eq_true zq10_2
            have q230 : (ji14) < (l0.length : Int) := of_decide_eq_true zq10_2
            obtain ⟨ad230, A230_2, c230_2, e230, hx230_0, hx230_1, hx230_2, hl230_2, hi230_2⟩ := at_T27 HR0.out (ji14) p230 q230
            have hw230_2 := hx230_2
            have hw230_1 := hx230_1
            have hw230_0 := hx230_0
            obtain rfl : ad224 = ad230 := (by injection e230)
            replace hx230_0 := (HB.out.cell (World.block_lt_of_cell? w _ hx230_0)).trans hx230_0
            replace hx230_1 := (HB.out.cell (World.block_lt_of_cell? w _ hx230_1)).trans hx230_1
            replace hx230_2 := (HB.out.cell (World.block_lt_of_cell? w _ hx230_2)).trans hx230_2
            have HR230_2 := Aside0.mk hi230_2
            have HC230_2 := Aside0.mk hl230_2
            clear hi230_2 hl230_2
            replace p230 := eq_true p230
            replace q230 := eq_true q230
            have p231 : 0 ≤ (x3_1 : Int) := of_decide_eq_true zq10_2
            have q231 : x3_1 < (l0.length : Int) := of_decide_eq_true zq10_2
            obtain ⟨ad231, A231_2, c231_2, e231, hx231_0, hx231_1, hx231_2, hl231_2, hi231_2⟩ := at_T27 HR0.out x3_1 p231 q231
            have hw231_2 := hx231_2
            have hw231_1 := hx231_1
            have hw231_0 := hx231_0
            obtain rfl : ad224 = ad231 := (by injection e231)
            replace hx231_0 := (HB.out.cell (World.block_lt_of_cell? w _ hx231_0)).trans hx231_0
            replace hx231_1 := (HB.out.cell (World.block_lt_of_cell? w _ hx231_1)).trans hx231_1
            replace hx231_2 := (HB.out.cell (World.block_lt_of_cell? w _ hx231_2)).trans hx231_2
            have HR231_2 := Aside0.mk hi231_2
            have HC231_2 := Aside0.mk hl231_2
            clear hi231_2 hl231_2
            replace p231 := eq_true p231
            replace q231 := eq_true q231
            have ea_ := Option.some.inj (hx224_2.symm.trans hx231_2)
            injection ea_ with ea_ en_ ec_
            subst ea_
            subst ec_
            clear en_
            refine start_ (n := 44) (S := fun w' => w'.cell? (ad224.add ((x3_1).toNat * 3)) = some (.string ((rd_T27 l0 x3_1).f0)) ∧ w'.cell? ⟨(ad224.add ((x3_1).toNat * 3)).block, (ad224.add ((x3_1).toNat * 3)).off + 1, none⟩ = some (.int .i64 ((rd_T27 l0 x3_1).f1.f0)) ∧ w'.cell? ⟨(ad224.add ((x3_1).toNat * 3)).block, (ad224.add ((x3_1).toNat * 3)).off + 2, none⟩ = some (.slice A224_2 ((rd_T27 l0 x3_1).f1.f1).length c224_2) ∧ w'.cell? (ad224.add ((x3_1).toNat * 3)) = some (.string ((rd_T27 l0 x3_1).f0)) ∧ w'.cell? ⟨(ad224.add ((x3_1).toNat * 3)).block, (ad224.add ((x3_1).toNat * 3)).off + 1, none⟩ = some (.int .i64 ((rd_T27 l0 x3_1).f1.f0)) ∧ w'.cell? ⟨(ad224.add ((x3_1).toNat * 3)).block, (ad224.add ((x3_1).toNat * 3)).off + 2, none⟩ = some (.slice A224_2 ((rd_T27 l0 x3_1).f1.f1).length c224_2) ∧ w'.cell? (ad224.add ((x3_1).toNat * 3)) = some (.string ((rd_T27 l0 x3_1).f0)) ∧ w'.cell? ⟨(ad224.add ((x3_1).toNat * 3)).block, (ad224.add ((x3_1).toNat * 3)).off + 1, none⟩ = some (.int .i64 ((rd_T27 l0 x3_1).f1.f0)) ∧ w'.cell? ⟨(ad224.add ((x3_1).toNat * 3)).block, (ad224.add ((x3_1).toNat * 3)).off + 2, none⟩ = some (.slice A224_2 ((rd_T27 l0 x3_1).f1.f1).length c224_2) ∧ w'.cell? (ad224.add (((ji14)).toNat * 3)) = some (.string ((rd_T27 l0 (ji14)).f0)) ∧ w'.cell? ⟨(ad224.add (((ji14)).toNat * 3)).block, (ad224.add (((ji14)).toNat * 3)).off + 1, none⟩ = some (.int .i64 ((rd_T27 l0 (ji14)).f1.f0)) ∧ w'.cell? ⟨(ad224.add (((ji14)).toNat * 3)).block, (ad224.add (((ji14)).toNat * 3)).off + 2, none⟩ = some (.slice A230_2 ((rd_T27 l0 (ji14)).f1.f1).length c230_2) ∧ w'.cell? (ad224.add ((x3_1).toNat * 3)) = some (.string ((rd_T27 l0 x3_1).f0)) ∧ w'.cell? ⟨(ad224.add ((x3_1).toNat * 3)).block, (ad224.add ((x3_1).toNat * 3)).off + 1, none⟩ = some (.int .i64 ((rd_T27 l0 x3_1).f1.f0)) ∧ w'.cell? ⟨(ad224.add ((x3_1).toNat * 3)).block, (ad224.add ((x3_1).toNat * 3)).off + 2, none⟩ = some (.slice A224_2 ((rd_T27 l0 x3_1).f1.f1).length c224_2)) (ds := []) #[false, false, false, false, false, false, false, false, false, false, false, false, false, false, false, false, false, false, false, false, false, false, false, false, false, false, false, false, false, false, false, false, false, false, false, false, false, false, false, false, false, false, false, false] (by kernel_rfl) rfl rfl ⟨((HB.out.cell (World.block_lt_of_cell? w _ hw224_0)).trans hw224_0), ((HB.out.cell (World.block_lt_of_cell? w _ hw224_1)).trans hw224_1), ((HB.out.cell (World.block_lt_of_cell? w _ hw224_2)).trans hw224_2), ((HB.out.cell (World.block_lt_of_cell? w _ hw226_0)).trans hw226_0), ((HB.out.cell (World.block_lt_of_cell? w _ hw226_1)).trans hw226_1), ((HB.out.cell (World.block_lt_of_cell? w _ hw226_2)).trans hw226_2), ((HB.out.cell (World.block_lt_of_cell? w _ hw228_0)).trans hw228_0), ((HB.out.cell (World.block_lt_of_cell? w _ hw228_1)).trans hw228_1), ((HB.out.cell (World.block_lt_of_cell? w _ hw228_2)).trans hw228_2), ((HB.out.cell (World.block_lt_of_cell? w _ hw230_0)).trans hw230_0), ((HB.out.cell (World.block_lt_of_cell? w _ hw230_1)).trans hw230_1), ((HB.out.cell (World.block_lt_of_cell? w _ hw230_2)).trans hw230_2), ((HB.out.cell (World.block_lt_of_cell? w _ hw231_0)).trans hw231_0), ((HB.out.cell (World.block_lt_of_cell? w _ hw231_1)).trans hw231_1), ((HB.out.cell (World.block_lt_of_cell? w _ hw231_2)).trans hw231_2)⟩ (fun hHeld => ?_); refine with_tabW cenotaphref04_Right.tab4 cenotaphref04_Right.bits4 (fun HT_ HW_ => ?_)
            generalize wr.drew = w19 at HB HR224_2 HR226_2 HR228_2 HR230_2 HR231_2 hx224_0 hx224_1 hx224_2 hx226_0 hx226_1 hx226_2 hx228_0 hx228_1 hx228_2 hx230_0 hx230_1 hx230_2 hx231_0 hx231_1 hx231_2 hHeld ⊢
            refine p_ 0 10 (mk_ 44 0x1) ?_
            refine p_ 1 11 (mk_ 44 0x3) ?_
            refine p_ 2 12 (mk_ 44 0x7) ?_
            refine p_ 3 13 (mk_ 44 0xf) ?_
            refine t_ 4 14 (mk_ 44 0x1f) hHeld ?_
            refine one_ (i := 5) (N := some 15) #[true, true, true, true, true, true, false, false, false, false, false, false, false, false, false, false, false, false, false, false, false, false, false, false, false, false, false, false, false, false, false, false, false, false, false, false, false, false, false, false, false, false, false, false] rfl rfl (one_of HT_.out (by kernel_rfl)) (by decide) (fun K hK => ?_)
            refine goes_ Try.func39 (by kernel_rfl) rfl #[.string ((rd_T27 l0 x3_1).f0)] (by rfl) rfl rfl zq10_0 ?_
            with_reducible refine (cenotaphref01_Right.calls k1 ((rd_T27 l0 x3_1).f0) true _ A4.out).mono ?_
            rintro e w' ⟨rfl, ⟨nd, rfl⟩⟩
            refine ⟨_, rfl, ?_⟩
            refine hK.out _ _ ⟨((HB.out.cell (World.block_lt_of_cell? w _ hw224_0)).trans hw224_0), ((HB.out.cell (World.block_lt_of_cell? w _ hw224_1)).trans hw224_1), ((HB.out.cell (World.block_lt_of_cell? w _ hw224_2)).trans hw224_2), ((HB.out.cell (World.block_lt_of_cell? w _ hw226_0)).trans hw226_0), ((HB.out.cell (World.block_lt_of_cell? w _ hw226_1)).trans hw226_1), ((HB.out.cell (World.block_lt_of_cell? w _ hw226_2)).trans hw226_2), ((HB.out.cell (World.block_lt_of_cell? w _ hw228_0)).trans hw228_0), ((HB.out.cell (World.block_lt_of_cell? w _ hw228_1)).trans hw228_1), ((HB.out.cell (World.block_lt_of_cell? w _ hw228_2)).trans hw228_2), ((HB.out.cell (World.block_lt_of_cell? w _ hw230_0)).trans hw230_0), ((HB.out.cell (World.block_lt_of_cell? w _ hw230_1)).trans hw230_1), ((HB.out.cell (World.block_lt_of_cell? w _ hw230_2)).trans hw230_2), ((HB.out.cell (World.block_lt_of_cell? w _ hw231_0)).trans hw231_0), ((HB.out.cell (World.block_lt_of_cell? w _ hw231_1)).trans hw231_1), ((HB.out.cell (World.block_lt_of_cell? w _ hw231_2)).trans hw231_2)⟩ (fun hHeld => ?_)
            clear hK K
            refine norm_ (a' := ?_) ?_ ?_
            rotate_left
            ·show Act.put _ (some 15) _ = _
             simp only [Act.put, List.setIfInBounds_toArray, List.set_cons_zero, List.set_cons_succ, i64_w, i32_w]
             rfl
            refine p_ 6 16 (mk_ 44 0x7f) ?_
            refine p_ 7 17 (mk_ 44 0xff) ?_
            refine p_ 8 18 (mk_ 44 0x1ff) ?_
            refine p_ 9 19 (mk_ 44 0x3ff) ?_
            refine p_ 10 20 (mk_ 44 0x7ff) ?_
            refine p_ 11 21 (mk_ 44 0xfff) ?_
            refine t_ 12 22 (mk_ 44 0x1fff) hHeld ?_
            refine one_ (i := 13) (N := some 23) #[true, true, true, true, true, true, true, true, true, true, true, true, true, true, false, false, false, false, false, false, false, false, false, false, false, false, false, false, false, false, false, false, false, false, false, false, false, false, false, false, false, false, false, false] rfl rfl (one_of HT_.out (by kernel_rfl)) (by decide) (fun K hK => ?_)
            refine goes_ Try.func40 (by kernel_rfl) rfl #[.agg #[.int .i64 ((rd_T27 l0 x3_1).f1.f0), .slice A224_2 ((rd_T27 l0 x3_1).f1.f1).length c224_2]] (by rfl) rfl rfl zq10_0 ?_
            with_reducible refine (cenotaphref02_Right.calls k1 ((rd_T27 l0 x3_1).f1.f0) _ _ ((rd_T27 l0 x3_1).f1.f1) true _ ?side1 ?side2 A6.out).mono ?_
            (case side1 => repeat (first | exact (Kd.C_below HR226_2.out zq10_1) | (with_reducible refine Kd.C_alloc ?_ _) | (with_reducible refine Kd.C_drewN ?_ _) | (with_reducible refine Kd.C_drew ?_)))
            (case side2 => exact HC226_2.out)
            rintro e w20 ⟨rfl, hb⟩
            refine ⟨_, rfl, ?_⟩
            replace HB := Aside0.mk (below_step zq10_1 hb)
            (try clear hb)
            (try clear hb2)
            (try clear hk)
            (try clear hi)
            refine hK.out _ _ ⟨((HB.out.cell (World.block_lt_of_cell? w _ hw224_0)).trans hw224_0), ((HB.out.cell (World.block_lt_of_cell? w _ hw224_1)).trans hw224_1), ((HB.out.cell (World.block_lt_of_cell? w _ hw224_2)).trans hw224_2), ((HB.out.cell (World.block_lt_of_cell? w _ hw226_0)).trans hw226_0), ((HB.out.cell (World.block_lt_of_cell? w _ hw226_1)).trans hw226_1), ((HB.out.cell (World.block_lt_of_cell? w _ hw226_2)).trans hw226_2), ((HB.out.cell (World.block_lt_of_cell? w _ hw228_0)).trans hw228_0), ((HB.out.cell (World.block_lt_of_cell? w _ hw228_1)).trans hw228_1), ((HB.out.cell (World.block_lt_of_cell? w _ hw228_2)).trans hw228_2), ((HB.out.cell (World.block_lt_of_cell? w _ hw230_0)).trans hw230_0), ((HB.out.cell (World.block_lt_of_cell? w _ hw230_1)).trans hw230_1), ((HB.out.cell (World.block_lt_of_cell? w _ hw230_2)).trans hw230_2), ((HB.out.cell (World.block_lt_of_cell? w _ hw231_0)).trans hw231_0), ((HB.out.cell (World.block_lt_of_cell? w _ hw231_1)).trans hw231_1), ((HB.out.cell (World.block_lt_of_cell? w _ hw231_2)).trans hw231_2)⟩ (fun hHeld => ?_)
            clear hK K
            refine norm_ (a' := ?_) ?_ ?_
            rotate_left
            ·show Act.put _ (some 23) _ = _
             simp only [Act.put, List.setIfInBounds_toArray, List.set_cons_zero, List.set_cons_succ, i64_w, i32_w]
             rfl
            refine p_ 14 24 (mk_ 44 0x7fff) ?_
            refine p_ 15 25 (mk_ 44 0xffff) ?_
            refine p_ 16 26 (mk_ 44 0x1ffff) ?_
            refine p_ 17 27 (mk_ 44 0x3ffff) ?_
            refine p_ 18 28 (mk_ 44 0x7ffff) ?_
            refine p_ 19 29 (mk_ 44 0xfffff) ?_
            refine p_ 20 30 (mk_ 44 0x1fffff) ?_
            refine t_ 21 31 (mk_ 44 0x3fffff) hHeld ?_
            refine one_ (i := 22) (N := some 32) #[true, true, true, true, true, true, true, true, true, true, true, true, true, true, true, true, true, true, true, true, true, true, true, false, false, false, false, false, false, false, false, false, false, false, false, false, false, false, false, false, false, false, false, false] rfl rfl (one_of HT_.out (by kernel_rfl)) (by decide) (fun K hK => ?_)
            refine goes_ Try.func41 (by kernel_rfl) rfl #[.agg #[.int .i64 ((rd_T27 l0 x3_1).f1.f0), .slice A224_2 ((rd_T27 l0 x3_1).f1.f1).length c224_2]] (by rfl) rfl rfl zq10_0 ?_
            with_reducible refine (cenotaphref02_Count.calls ((rd_T27 l0 x3_1).f1.f0) _ _ ((rd_T27 l0 x3_1).f1.f1) t229 _ ?side1 ?side2 A8.out).mono ?_
            (case side1 => repeat (first | exact (Kd.C_below HR228_2.out HB.out) | (with_reducible refine Kd.C_alloc ?_ _) | (with_reducible refine Kd.C_drewN ?_ _) | (with_reducible refine Kd.C_drew ?_)))
            (case side2 => exact HC228_2.out)
            rintro e w21 ⟨rfl, hb⟩
            refine ⟨_, rfl, ?_⟩
            replace HB := Aside0.mk (below_step zq10_1 hb)
            (try clear hb)
            (try clear hb2)
            (try clear hk)
            (try clear hi)
            refine hK.out _ _ ⟨((HB.out.cell (World.block_lt_of_cell? w _ hw224_0)).trans hw224_0), ((HB.out.cell (World.block_lt_of_cell? w _ hw224_1)).trans hw224_1), ((HB.out.cell (World.block_lt_of_cell? w _ hw224_2)).trans hw224_2), ((HB.out.cell (World.block_lt_of_cell? w _ hw226_0)).trans hw226_0), ((HB.out.cell (World.block_lt_of_cell? w _ hw226_1)).trans hw226_1), ((HB.out.cell (World.block_lt_of_cell? w _ hw226_2)).trans hw226_2), ((HB.out.cell (World.block_lt_of_cell? w _ hw228_0)).trans hw228_0), ((HB.out.cell (World.block_lt_of_cell? w _ hw228_1)).trans hw228_1), ((HB.out.cell (World.block_lt_of_cell? w _ hw228_2)).trans hw228_2), ((HB.out.cell (World.block_lt_of_cell? w _ hw230_0)).trans hw230_0), ((HB.out.cell (World.block_lt_of_cell? w _ hw230_1)).trans hw230_1), ((HB.out.cell (World.block_lt_of_cell? w _ hw230_2)).trans hw230_2), ((HB.out.cell (World.block_lt_of_cell? w _ hw231_0)).trans hw231_0), ((HB.out.cell (World.block_lt_of_cell? w _ hw231_1)).trans hw231_1), ((HB.out.cell (World.block_lt_of_cell? w _ hw231_2)).trans hw231_2)⟩ (fun hHeld => ?_)
            clear hK K
            refine norm_ (a' := ?_) ?_ ?_
            rotate_left
            ·show Act.put _ (some 32) _ = _
             simp only [Act.put, List.setIfInBounds_toArray, List.set_cons_zero, List.set_cons_succ, i64_w, i32_w]
             rfl
            refine p_ 23 33 (mk_ 44 0xffffff) ?_
            refine p_ 24 34 (mk_ 44 0x1ffffff) ?_
            refine p_ 25 35 (mk_ 44 0x3ffffff) ?_
            refine p_ 26 36 (mk_ 44 0x7ffffff) ?_
            refine p_ 27 37 (mk_ 44 0xfffffff) ?_
            refine p_ 28 38 (mk_ 44 0x1fffffff) ?_
            refine p_ 29 39 (mk_ 44 0x3fffffff) ?_
            refine p_ 30 40 (mk_ 44 0x7fffffff) ?_
            refine p_ 31 41 (mk_ 44 0xffffffff) ?_
            refine p_ 32 42 (mk_ 44 0x1ffffffff) ?_
            refine p_ 33 43 (mk_ 44 0x3ffffffff) ?_
            refine p_ 35 45 (mk_ 44 0xbffffffff) ?_
            refine p_ 36 46 (mk_ 44 0x1bffffffff) ?_
            refine p_ 37 47 (mk_ 44 0x3bffffffff) ?_
            refine p_ 38 48 (mk_ 44 0x7bffffffff) ?_
            refine t_ 34 44 (mk_ 44 0x7fffffffff) hHeld ?_
            refine t_ 39 49 (mk_ 44 0xffffffffff) hHeld ?_
            refine one_ (i := 40) (N := some 50) #[true, true, true, true, true, true, true, true, true, true, true, true, true, true, true, true, true, true, true, true, true, true, true, true, true, true, true, true, true, true, true, true, true, true, true, true, true, true, true, true, true, false, false, false] rfl rfl (one_of HT_.out (by kernel_rfl)) (by decide) (fun K hK => ?_)
            refine goes_ Try.func42 (by kernel_rfl) rfl #[.string ((rd_T27 l0 (ji14)).f0), .string ((rd_T27 l0 x3_1).f0)] (by rfl) rfl rfl (by (try simp only [List.map_toArray, List.map_cons, List.map_nil]); first | done | (simp only [hji14]; rfl) | rfl | (simp only [List.length_drop, List.length_take]; rfl)) ?_
            with_reducible refine (cenotaphref01_Compare.calls k1 ((rd_T27 l0 (ji14)).f0) ((rd_T27 l0 x3_1).f0) t232 _ A17.out).mono ?_
            rintro e w' ⟨rfl, ⟨nd, rfl⟩⟩
            refine ⟨_, rfl, ?_⟩
            refine hK.out _ _ ⟨((HB.out.cell (World.block_lt_of_cell? w _ hw224_0)).trans hw224_0), ((HB.out.cell (World.block_lt_of_cell? w _ hw224_1)).trans hw224_1), ((HB.out.cell (World.block_lt_of_cell? w _ hw224_2)).trans hw224_2), ((HB.out.cell (World.block_lt_of_cell? w _ hw226_0)).trans hw226_0), ((HB.out.cell (World.block_lt_of_cell? w _ hw226_1)).trans hw226_1), ((HB.out.cell (World.block_lt_of_cell? w _ hw226_2)).trans hw226_2), ((HB.out.cell (World.block_lt_of_cell? w _ hw228_0)).trans hw228_0), ((HB.out.cell (World.block_lt_of_cell? w _ hw228_1)).trans hw228_1), ((HB.out.cell (World.block_lt_of_cell? w _ hw228_2)).trans hw228_2), ((HB.out.cell (World.block_lt_of_cell? w _ hw230_0)).trans hw230_0), ((HB.out.cell (World.block_lt_of_cell? w _ hw230_1)).trans hw230_1), ((HB.out.cell (World.block_lt_of_cell? w _ hw230_2)).trans hw230_2), ((HB.out.cell (World.block_lt_of_cell? w _ hw231_0)).trans hw231_0), ((HB.out.cell (World.block_lt_of_cell? w _ hw231_1)).trans hw231_1), ((HB.out.cell (World.block_lt_of_cell? w _ hw231_2)).trans hw231_2)⟩ (fun hHeld => ?_)
            clear hK K
            refine norm_ (a' := ?_) ?_ ?_
            rotate_left
            ·show Act.put _ (some 50) _ = _
             simp only [Act.put, List.setIfInBounds_toArray, List.set_cons_zero, List.set_cons_succ, i64_w, i32_w]
             rfl
            refine p_ 41 51 (mk_ 44 0x3ffffffffff) ?_
            refine p_ 42 52 (mk_ 44 0x7ffffffffff) ?_
            refine p_ 43 53 (mk_ 44 0xfffffffffff) ?_
            refine done_ (done_of HT_.out (by kernel_rfl)) ?_
            try go_wp2
            go_ret
            exact ⟨by first | rfl | (simp [errW_none, errW_some] <;> rfl) | (simp only [← hji14]; first | rfl | (simp [errW_none, errW_some] <;> rfl)) | (simp [*, errW_none, errW_some] <;> rfl), by repeat (first | (with_reducible first | exact HB.out | apply below_alloc | apply pw_below_drewN | apply below_drew1) | exact HB.out)⟩
           ·rw [if_neg c18] at H
            have c18b0 : decide (0 ≤ t232) = false := decide_eq_false c18
            clear c18
            have H' := Aside0.mk H
            clear H
            try go_wp2
            replace HB := Aside0.mk (below_drew1 HB.out)
            have p224 : 0 ≤ (x3_1 : Int) := of_decide_eq_true zq10_2
            have q224 : x3_1 < (l0.length : Int) := of_decide_eq_true zq10_2
            obtain ⟨ad224, A224_2, c224_2, e224, hx224_0, hx224_1, hx224_2, hl224_2, hi224_2⟩ := at_T27 HR0.out x3_1 p224 q224
            have hw224_2 := hx224_2
            have hw224_1 := hx224_1
            have hw224_0 := hx224_0
            cases e224
            replace hx224_0 := (HB.out.cell (World.block_lt_of_cell? w _ hx224_0)).trans hx224_0
            replace hx224_1 := (HB.out.cell (World.block_lt_of_cell? w _ hx224_1)).trans hx224_1
            replace hx224_2 := (HB.out.cell (World.block_lt_of_cell? w _ hx224_2)).trans hx224_2
            have HR224_2 := Aside0.mk hi224_2
            have HC224_2 := Aside0.mk hl224_2
            clear hi224_2 hl224_2
            replace p224 := eq_true p224
            replace q224 := eq_true q224
            have p226 : 0 ≤ (x3_1 : Int) := of_decide_eq_true zq10_2
            have q226 : x3_1 < (l0.length : Int) := of_decide_eq_true zq10_2
            obtain ⟨ad226, A226_2, c226_2, e226, hx226_0, hx226_1, hx226_2, hl226_2, hi226_2⟩ := at_T27 HR0.out x3_1 p226 q226
            have hw226_2 := hx226_2
            have hw226_1 := hx226_1
            have hw226_0 := hx226_0
            obtain rfl : ad224 = ad226 := (by injection e226)
            replace hx226_0 := (HB.out.cell (World.block_lt_of_cell? w _ hx226_0)).trans hx226_0
            replace hx226_1 := (HB.out.cell (World.block_lt_of_cell? w _ hx226_1)).trans hx226_1
            replace hx226_2 := (HB.out.cell (World.block_lt_of_cell? w _ hx226_2)).trans hx226_2
            have HR226_2 := Aside0.mk hi226_2
            have HC226_2 := Aside0.mk hl226_2
            clear hi226_2 hl226_2
            replace p226 := eq_true p226
            replace q226 := eq_true q226
            have ea_ := Option.some.inj (hx224_2.symm.trans hx226_2)
            injection ea_ with ea_ en_ ec_
            subst ea_
            subst ec_
            clear en_
            have p228 : 0 ≤ (x3_1 : Int) := of_decide_eq_true zq10_2
            have q228 : x3_1 < (l0.length : Int) := of_decide_eq_true zq10_2
            obtain ⟨ad228, A228_2, c228_2, e228, hx228_0, hx228_1, hx228_2, hl228_2, hi228_2⟩ := at_T27 HR0.out x3_1 p228 q228
            have hw228_2 := hx228_2
            have hw228_1 := hx228_1
            have hw228_0 := hx228_0
            obtain rfl : ad224 = ad228 := (by injection e228)
            replace hx228_0 := (HB.out.cell (World.block_lt_of_cell? w _ hx228_0)).trans hx228_0
            replace hx228_1 := (HB.out.cell (World.block_lt_of_cell? w _ hx228_1)).trans hx228_1
            replace hx228_2 := (HB.out.cell (World.block_lt_of_cell? w _ hx228_2)).trans hx228_2
            have HR228_2 := Aside0.mk hi228_2
            have HC228_2 := Aside0.mk hl228_2
            clear hi228_2 hl228_2
            replace p228 := eq_true p228
            replace q228 := eq_true q228
            have ea_ := Option.some.inj (hx224_2.symm.trans hx228_2)
            injection ea_ with ea_ en_ ec_
            subst ea_
            subst ec_
            clear en_
            have p230 : 0 ≤ ((ji14) : Int) := of_decide_eq_true zq10_2
            have q230 : (ji14) < (l0.length : Int) := of_decide_eq_true zq10_2
            obtain ⟨ad230, A230_2, c230_2, e230, hx230_0, hx230_1, hx230_2, hl230_2, hi230_2⟩ := at_T27 HR0.out (ji14) p230 q230
            have hw230_2 := hx230_2
            have hw230_1 := hx230_1
            have hw230_0 := hx230_0
            obtain rfl : ad224 = ad230 := (by injection e230)
            replace hx230_0 := (HB.out.cell (World.block_lt_of_cell? w _ hx230_0)).trans hx230_0
            replace hx230_1 := (HB.out.cell (World.block_lt_of_cell? w _ hx230_1)).trans hx230_1
            replace hx230_2 := (HB.out.cell (World.block_lt_of_cell? w _ hx230_2)).trans hx230_2
            have HR230_2 := Aside0.mk hi230_2
            have HC230_2 := Aside0.mk hl230_2
            clear hi230_2 hl230_2
            replace p230 := eq_true p230
            replace q230 := eq_true q230
            have p231 : 0 ≤ (x3_1 : Int) := of_decide_eq_true zq10_2
            have q231 : x3_1 < (l0.length : Int) := of_decide_eq_true zq10_2
            obtain ⟨ad231, A231_2, c231_2, e231, hx231_0, hx231_1, hx231_2, hl231_2, hi231_2⟩ := at_T27 HR0.out x3_1 p231 q231
            have hw231_2 := hx231_2
            have hw231_1 := hx231_1
            have hw231_0 := hx231_0
            obtain rfl : ad224 = ad231 := (by injection e231)
            replace hx231_0 := (HB.out.cell (World.block_lt_of_cell? w _ hx231_0)).trans hx231_0
            replace hx231_1 := (HB.out.cell (World.block_lt_of_cell? w _ hx231_1)).trans hx231_1
            replace hx231_2 := (HB.out.cell (World.block_lt_of_cell? w _ hx231_2)).trans hx231_2
            have HR231_2 := Aside0.mk hi231_2
            have HC231_2 := Aside0.mk hl231_2
            clear hi231_2 hl231_2
            replace p231 := eq_true p231
            replace q231 := eq_true q231
            have ea_ := Option.some.inj (hx224_2.symm.trans hx231_2)
            injection ea_ with ea_ en_ ec_
            subst ea_
            subst ec_
            clear en_
            refine start_ (n := 44) (S := fun w' => w'.cell? (ad224.add ((x3_1).toNat * 3)) = some (.string ((rd_T27 l0 x3_1).f0)) ∧ w'.cell? ⟨(ad224.add ((x3_1).toNat * 3)).block, (ad224.add ((x3_1).toNat * 3)).off + 1, none⟩ = some (.int .i64 ((rd_T27 l0 x3_1).f1.f0)) ∧ w'.cell? ⟨(ad224.add ((x3_1).toNat * 3)).block, (ad224.add ((x3_1).toNat * 3)).off + 2, none⟩ = some (.slice A224_2 ((rd_T27 l0 x3_1).f1.f1).length c224_2) ∧ w'.cell? (ad224.add ((x3_1).toNat * 3)) = some (.string ((rd_T27 l0 x3_1).f0)) ∧ w'.cell? ⟨(ad224.add ((x3_1).toNat * 3)).block, (ad224.add ((x3_1).toNat * 3)).off + 1, none⟩ = some (.int .i64 ((rd_T27 l0 x3_1).f1.f0)) ∧ w'.cell? ⟨(ad224.add ((x3_1).toNat * 3)).block, (ad224.add ((x3_1).toNat * 3)).off + 2, none⟩ = some (.slice A224_2 ((rd_T27 l0 x3_1).f1.f1).length c224_2) ∧ w'.cell? (ad224.add ((x3_1).toNat * 3)) = some (.string ((rd_T27 l0 x3_1).f0)) ∧ w'.cell? ⟨(ad224.add ((x3_1).toNat * 3)).block, (ad224.add ((x3_1).toNat * 3)).off + 1, none⟩ = some (.int .i64 ((rd_T27 l0 x3_1).f1.f0)) ∧ w'.cell? ⟨(ad224.add ((x3_1).toNat * 3)).block, (ad224.add ((x3_1).toNat * 3)).off + 2, none⟩ = some (.slice A224_2 ((rd_T27 l0 x3_1).f1.f1).length c224_2) ∧ w'.cell? (ad224.add (((ji14)).toNat * 3)) = some (.string ((rd_T27 l0 (ji14)).f0)) ∧ w'.cell? ⟨(ad224.add (((ji14)).toNat * 3)).block, (ad224.add (((ji14)).toNat * 3)).off + 1, none⟩ = some (.int .i64 ((rd_T27 l0 (ji14)).f1.f0)) ∧ w'.cell? ⟨(ad224.add (((ji14)).toNat * 3)).block, (ad224.add (((ji14)).toNat * 3)).off + 2, none⟩ = some (.slice A230_2 ((rd_T27 l0 (ji14)).f1.f1).length c230_2) ∧ w'.cell? (ad224.add ((x3_1).toNat * 3)) = some (.string ((rd_T27 l0 x3_1).f0)) ∧ w'.cell? ⟨(ad224.add ((x3_1).toNat * 3)).block, (ad224.add ((x3_1).toNat * 3)).off + 1, none⟩ = some (.int .i64 ((rd_T27 l0 x3_1).f1.f0)) ∧ w'.cell? ⟨(ad224.add ((x3_1).toNat * 3)).block, (ad224.add ((x3_1).toNat * 3)).off + 2, none⟩ = some (.slice A224_2 ((rd_T27 l0 x3_1).f1.f1).length c224_2)) (ds := []) #[false, false, false, false, false, false, false, false, false, false, false, false, false, false, false, false, false, false, false, false, false, false, false, false, false, false, false, false, false, false, false, false, false, false, false, false, false, false, false, false, false, false, false, false] (by kernel_rfl) rfl rfl ⟨((HB.out.cell (World.block_lt_of_cell? w _ hw224_0)).trans hw224_0), ((HB.out.cell (World.block_lt_of_cell? w _ hw224_1)).trans hw224_1), ((HB.out.cell (World.block_lt_of_cell? w _ hw224_2)).trans hw224_2), ((HB.out.cell (World.block_lt_of_cell? w _ hw226_0)).trans hw226_0), ((HB.out.cell (World.block_lt_of_cell? w _ hw226_1)).trans hw226_1), ((HB.out.cell (World.block_lt_of_cell? w _ hw226_2)).trans hw226_2), ((HB.out.cell (World.block_lt_of_cell? w _ hw228_0)).trans hw228_0), ((HB.out.cell (World.block_lt_of_cell? w _ hw228_1)).trans hw228_1), ((HB.out.cell (World.block_lt_of_cell? w _ hw228_2)).trans hw228_2), ((HB.out.cell (World.block_lt_of_cell? w _ hw230_0)).trans hw230_0), ((HB.out.cell (World.block_lt_of_cell? w _ hw230_1)).trans hw230_1), ((HB.out.cell (World.block_lt_of_cell? w _ hw230_2)).trans hw230_2), ((HB.out.cell (World.block_lt_of_cell? w _ hw231_0)).trans hw231_0), ((HB.out.cell (World.block_lt_of_cell? w _ hw231_1)).trans hw231_1), ((HB.out.cell (World.block_lt_of_cell? w _ hw231_2)).trans hw231_2)⟩ (fun hHeld => ?_); refine with_tabW cenotaphref04_Right.tab4 cenotaphref04_Right.bits4 (fun HT_ HW_ => ?_)
            generalize wr.drew = w22 at HB HR224_2 HR226_2 HR228_2 HR230_2 HR231_2 hx224_0 hx224_1 hx224_2 hx226_0 hx226_1 hx226_2 hx228_0 hx228_1 hx228_2 hx230_0 hx230_1 hx230_2 hx231_0 hx231_1 hx231_2 hHeld ⊢
            refine p_ 0 10 (mk_ 44 0x1) ?_
            refine p_ 1 11 (mk_ 44 0x3) ?_
            refine p_ 2 12 (mk_ 44 0x7) ?_
            refine p_ 3 13 (mk_ 44 0xf) ?_
            refine t_ 4 14 (mk_ 44 0x1f) hHeld ?_
            refine one_ (i := 5) (N := some 15) #[true, true, true, true, true, true, false, false, false, false, false, false, false, false, false, false, false, false, false, false, false, false, false, false, false, false, false, false, false, false, false, false, false, false, false, false, false, false, false, false, false, false, false, false] rfl rfl (one_of HT_.out (by kernel_rfl)) (by decide) (fun K hK => ?_)
            refine goes_ Try.func39 (by kernel_rfl) rfl #[.string ((rd_T27 l0 x3_1).f0)] (by rfl) rfl rfl zq10_0 ?_
            with_reducible refine (cenotaphref01_Right.calls k1 ((rd_T27 l0 x3_1).f0) true _ A4.out).mono ?_
            rintro e w' ⟨rfl, ⟨nd, rfl⟩⟩
            refine ⟨_, rfl, ?_⟩
            refine hK.out _ _ ⟨((HB.out.cell (World.block_lt_of_cell? w _ hw224_0)).trans hw224_0), ((HB.out.cell (World.block_lt_of_cell? w _ hw224_1)).trans hw224_1), ((HB.out.cell (World.block_lt_of_cell? w _ hw224_2)).trans hw224_2), ((HB.out.cell (World.block_lt_of_cell? w _ hw226_0)).trans hw226_0), ((HB.out.cell (World.block_lt_of_cell? w _ hw226_1)).trans hw226_1), ((HB.out.cell (World.block_lt_of_cell? w _ hw226_2)).trans hw226_2), ((HB.out.cell (World.block_lt_of_cell? w _ hw228_0)).trans hw228_0), ((HB.out.cell (World.block_lt_of_cell? w _ hw228_1)).trans hw228_1), ((HB.out.cell (World.block_lt_of_cell? w _ hw228_2)).trans hw228_2), ((HB.out.cell (World.block_lt_of_cell? w _ hw230_0)).trans hw230_0), ((HB.out.cell (World.block_lt_of_cell? w _ hw230_1)).trans hw230_1), ((HB.out.cell (World.block_lt_of_cell? w _ hw230_2)).trans hw230_2), ((HB.out.cell (World.block_lt_of_cell? w _ hw231_0)).trans hw231_0), ((HB.out.cell (World.block_lt_of_cell? w _ hw231_1)).trans hw231_1), ((HB.out.cell (World.block_lt_of_cell? w _ hw231_2)).trans hw231_2)⟩ (fun hHeld => ?_)
            clear hK K
            refine norm_ (a' := ?_) ?_ ?_
            rotate_left
            ·show Act.put _ (some 15) _ = _
             simp only [Act.put, List.setIfInBounds_toArray, List.set_cons_zero, List.set_cons_succ, i64_w, i32_w]
             rfl
            refine p_ 6 16 (mk_ 44 0x7f) ?_
            refine p_ 7 17 (mk_ 44 0xff) ?_
            refine p_ 8 18 (mk_ 44 0x1ff) ?_
            refine p_ 9 19 (mk_ 44 0x3ff) ?_
            refine p_ 10 20 (mk_ 44 0x7ff) ?_
            refine p_ 11 21 (mk_ 44 0xfff) ?_
            refine t_ 12 22 (mk_ 44 0x1fff) hHeld ?_
            refine one_ (i := 13) (N := some 23) #[true, true, true, true, true, true, true, true, true, true, true, true, true, true, false, false, false, false, false, false, false, false, false, false, false, false, false, false, false, false, false, false, false, false, false, false, false, false, false, false, false, false, false, false] rfl rfl (one_of HT_.out (by kernel_rfl)) (by decide) (fun K hK => ?_)
            refine goes_ Try.func40 (by kernel_rfl) rfl #[.agg #[.int .i64 ((rd_T27 l0 x3_1).f1.f0), .slice A224_2 ((rd_T27 l0 x3_1).f1.f1).length c224_2]] (by rfl) rfl rfl zq10_0 ?_
            with_reducible refine (cenotaphref02_Right.calls k1 ((rd_T27 l0 x3_1).f1.f0) _ _ ((rd_T27 l0 x3_1).f1.f1) true _ ?side1 ?side2 A6.out).mono ?_
            (case side1 => repeat (first | exact (Kd.C_below HR226_2.out zq10_1) | (with_reducible refine Kd.C_alloc ?_ _) | (with_reducible refine Kd.C_drewN ?_ _) | (with_reducible refine Kd.C_drew ?_)))
            (case side2 => exact HC226_2.out)
            rintro e w23 ⟨rfl, hb⟩
            refine ⟨_, rfl, ?_⟩
            replace HB := Aside0.mk (below_step zq10_1 hb)
            (try clear hb)
            (try clear hb2)
            (try clear hk)
            (try clear hi)
            refine hK.out _ _ ⟨((HB.out.cell (World.block_lt_of_cell? w _ hw224_0)).trans hw224_0), ((HB.out.cell (World.block_lt_of_cell? w _ hw224_1)).trans hw224_1), ((HB.out.cell (World.block_lt_of_cell? w _ hw224_2)).trans hw224_2), ((HB.out.cell (World.block_lt_of_cell? w _ hw226_0)).trans hw226_0), ((HB.out.cell (World.block_lt_of_cell? w _ hw226_1)).trans hw226_1), ((HB.out.cell (World.block_lt_of_cell? w _ hw226_2)).trans hw226_2), ((HB.out.cell (World.block_lt_of_cell? w _ hw228_0)).trans hw228_0), ((HB.out.cell (World.block_lt_of_cell? w _ hw228_1)).trans hw228_1), ((HB.out.cell (World.block_lt_of_cell? w _ hw228_2)).trans hw228_2), ((HB.out.cell (World.block_lt_of_cell? w _ hw230_0)).trans hw230_0), ((HB.out.cell (World.block_lt_of_cell? w _ hw230_1)).trans hw230_1), ((HB.out.cell (World.block_lt_of_cell? w _ hw230_2)).trans hw230_2), ((HB.out.cell (World.block_lt_of_cell? w _ hw231_0)).trans hw231_0), ((HB.out.cell (World.block_lt_of_cell? w _ hw231_1)).trans hw231_1), ((HB.out.cell (World.block_lt_of_cell? w _ hw231_2)).trans hw231_2)⟩ (fun hHeld => ?_)
            clear hK K
            refine norm_ (a' := ?_) ?_ ?_
            rotate_left
            ·show Act.put _ (some 23) _ = _
             simp only [Act.put, List.setIfInBounds_toArray, List.set_cons_zero, List.set_cons_succ, i64_w, i32_w]
             rfl
            refine p_ 14 24 (mk_ 44 0x7fff) ?_
            refine p_ 15 25 (mk_ 44 0xffff) ?_
            refine p_ 16 26 (mk_ 44 0x1ffff) ?_
            refine p_ 17 27 (mk_ 44 0x3ffff) ?_
            refine p_ 18 28 (mk_ 44 0x7ffff) ?_
            refine p_ 19 29 (mk_ 44 0xfffff) ?_
            refine p_ 20 30 (mk_ 44 0x1fffff) ?_
            refine t_ 21 31 (mk_ 44 0x3fffff) hHeld ?_
            refine one_ (i := 22) (N := some 32) #[true, true, true, true, true, true, true, true, true, true, true, true, true, true, true, true, true, true, true, true, true, true, true, false, false, false, false, false, false, false, false, false, false, false, false, false, false, false, false, false, false, false, false, false] rfl rfl (one_of HT_.out (by kernel_rfl)) (by decide) (fun K hK => ?_)
            refine goes_ Try.func41 (by kernel_rfl) rfl #[.agg #[.int .i64 ((rd_T27 l0 x3_1).f1.f0), .slice A224_2 ((rd_T27 l0 x3_1).f1.f1).length c224_2]] (by rfl) rfl rfl zq10_0 ?_
            with_reducible refine (cenotaphref02_Count.calls ((rd_T27 l0 x3_1).f1.f0) _ _ ((rd_T27 l0 x3_1).f1.f1) t229 _ ?side1 ?side2 A8.out).mono ?_
            (case side1 => repeat (first | exact (Kd.C_below HR228_2.out HB.out) | (with_reducible refine Kd.C_alloc ?_ _) | (with_reducible refine Kd.C_drewN ?_ _) | (with_reducible refine Kd.C_drew ?_)))
            (case side2 => exact HC228_2.out)
            rintro e w24 ⟨rfl, hb⟩
            refine ⟨_, rfl, ?_⟩
            replace HB := Aside0.mk (below_step zq10_1 hb)
            (try clear hb)
            (try clear hb2)
            (try clear hk)
            (try clear hi)
            refine hK.out _ _ ⟨((HB.out.cell (World.block_lt_of_cell? w _ hw224_0)).trans hw224_0), ((HB.out.cell (World.block_lt_of_cell? w _ hw224_1)).trans hw224_1), ((HB.out.cell (World.block_lt_of_cell? w _ hw224_2)).trans hw224_2), ((HB.out.cell (World.block_lt_of_cell? w _ hw226_0)).trans hw226_0), ((HB.out.cell (World.block_lt_of_cell? w _ hw226_1)).trans hw226_1), ((HB.out.cell (World.block_lt_of_cell? w _ hw226_2)).trans hw226_2), ((HB.out.cell (World.block_lt_of_cell? w _ hw228_0)).trans hw228_0), ((HB.out.cell (World.block_lt_of_cell? w _ hw228_1)).trans hw228_1), ((HB.out.cell (World.block_lt_of_cell? w _ hw228_2)).trans hw228_2), ((HB.out.cell (World.block_lt_of_cell? w _ hw230_0)).trans hw230_0), ((HB.out.cell (World.block_lt_of_cell? w _ hw230_1)).trans hw230_1), ((HB.out.cell (World.block_lt_of_cell? w _ hw230_2)).trans hw230_2), ((HB.out.cell (World.block_lt_of_cell? w _ hw231_0)).trans hw231_0), ((HB.out.cell (World.block_lt_of_cell? w _ hw231_1)).trans hw231_1), ((HB.out.cell (World.block_lt_of_cell? w _ hw231_2)).trans hw231_2)⟩ (fun hHeld => ?_)
            clear hK K
            refine norm_ (a' := ?_) ?_ ?_
            rotate_left
            ·show Act.put _ (some 32) _ = _
             simp only [Act.put, List.setIfInBounds_toArray, List.set_cons_zero, List.set_cons_succ, i64_w, i32_w]
             rfl
            refine p_ 23 33 (mk_ 44 0xffffff) ?_
            refine p_ 24 34 (mk_ 44 0x1ffffff) ?_
            refine p_ 25 35 (mk_ 44 0x3ffffff) ?_
            refine p_ 26 36 (mk_ 44 0x7ffffff) ?_
            refine p_ 27 37 (mk_ 44 0xfffffff) ?_
            refine p_ 28 38 (mk_ 44 0x1fffffff) ?_
            refine p_ 29 39 (mk_ 44 0x3fffffff) ?_
            refine p_ 30 40 (mk_ 44 0x7fffffff) ?_
            refine p_ 31 41 (mk_ 44 0xffffffff) ?_
            refine p_ 32 42 (mk_ 44 0x1ffffffff) ?_
            refine p_ 33 43 (mk_ 44 0x3ffffffff) ?_
            refine p_ 35 45 (mk_ 44 0xbffffffff) ?_
            refine p_ 36 46 (mk_ 44 0x1bffffffff) ?_
            refine p_ 37 47 (mk_ 44 0x3bffffffff) ?_
            refine p_ 38 48 (mk_ 44 0x7bffffffff) ?_
            refine t_ 34 44 (mk_ 44 0x7fffffffff) hHeld ?_
            refine t_ 39 49 (mk_ 44 0xffffffffff) hHeld ?_
            refine one_ (i := 40) (N := some 50) #[true, true, true, true, true, true, true, true, true, true, true, true, true, true, true, true, true, true, true, true, true, true, true, true, true, true, true, true, true, true, true, true, true, true, true, true, true, true, true, true, true, false, false, false] rfl rfl (one_of HT_.out (by kernel_rfl)) (by decide) (fun K hK => ?_)
            refine goes_ Try.func42 (by kernel_rfl) rfl #[.string ((rd_T27 l0 (ji14)).f0), .string ((rd_T27 l0 x3_1).f0)] (by rfl) rfl rfl (by (try simp only [List.map_toArray, List.map_cons, List.map_nil]); first | done | (simp only [hji14]; rfl) | rfl | (simp only [List.length_drop, List.length_take]; rfl)) ?_
            with_reducible refine (cenotaphref01_Compare.calls k1 ((rd_T27 l0 (ji14)).f0) ((rd_T27 l0 x3_1).f0) t232 _ A17.out).mono ?_
            rintro e w' ⟨rfl, ⟨nd, rfl⟩⟩
            refine ⟨_, rfl, ?_⟩
            refine hK.out _ _ ⟨((HB.out.cell (World.block_lt_of_cell? w _ hw224_0)).trans hw224_0), ((HB.out.cell (World.block_lt_of_cell? w _ hw224_1)).trans hw224_1), ((HB.out.cell (World.block_lt_of_cell? w _ hw224_2)).trans hw224_2), ((HB.out.cell (World.block_lt_of_cell? w _ hw226_0)).trans hw226_0), ((HB.out.cell (World.block_lt_of_cell? w _ hw226_1)).trans hw226_1), ((HB.out.cell (World.block_lt_of_cell? w _ hw226_2)).trans hw226_2), ((HB.out.cell (World.block_lt_of_cell? w _ hw228_0)).trans hw228_0), ((HB.out.cell (World.block_lt_of_cell? w _ hw228_1)).trans hw228_1), ((HB.out.cell (World.block_lt_of_cell? w _ hw228_2)).trans hw228_2), ((HB.out.cell (World.block_lt_of_cell? w _ hw230_0)).trans hw230_0), ((HB.out.cell (World.block_lt_of_cell? w _ hw230_1)).trans hw230_1), ((HB.out.cell (World.block_lt_of_cell? w _ hw230_2)).trans hw230_2), ((HB.out.cell (World.block_lt_of_cell? w _ hw231_0)).trans hw231_0), ((HB.out.cell (World.block_lt_of_cell? w _ hw231_1)).trans hw231_1), ((HB.out.cell (World.block_lt_of_cell? w _ hw231_2)).trans hw231_2)⟩ (fun hHeld => ?_)
            clear hK K
            refine norm_ (a' := ?_) ?_ ?_
            rotate_left
            ·show Act.put _ (some 50) _ = _
             simp only [Act.put, List.setIfInBounds_toArray, List.set_cons_zero, List.set_cons_succ, i64_w, i32_w]
             rfl
            refine p_ 41 51 (mk_ 44 0x3ffffffffff) ?_
            refine p_ 42 52 (mk_ 44 0x7ffffffffff) ?_
            refine p_ 43 53 (mk_ 44 0xfffffffffff) ?_
            refine done_ (done_of HT_.out (by kernel_rfl)) ?_
            try go_wp2
            go_roundg k1
            case measure => have := HK1.out; omega
            case rel => exact ⟨(wrap64 (x3_1 + 1)), zq10_3, H', ⟨by have := HK1.out; omega⟩, ⟨by repeat (first | (with_reducible first | exact HB.out | apply below_alloc | apply pw_below_drewN | apply below_drew1) | exact HB.out)⟩⟩
          ·rw [if_neg c16] at H
           exact absurd H (by simp)
         ·rw [if_neg c15] at H
          exact absurd H (by simp)
        ·rw [if_neg c13] at H
         have c13b0 : decide (0 < x3_1) = false := decide_eq_false c13
         clear c13
         have H' := Aside0.mk H
         clear H
         try go_wp2
         replace HB := Aside0.mk (below_drew1 HB.out)
         have p224 : 0 ≤ (x3_1 : Int) := of_decide_eq_true zq10_2
         have q224 : x3_1 < (l0.length : Int) := of_decide_eq_true zq10_2
         obtain ⟨ad224, A224_2, c224_2, e224, hx224_0, hx224_1, hx224_2, hl224_2, hi224_2⟩ := at_T27 HR0.out x3_1 p224 q224
         have hw224_2 := hx224_2
         have hw224_1 := hx224_1
         have hw224_0 := hx224_0
         cases e224
         replace hx224_0 := (HB.out.cell (World.block_lt_of_cell? w _ hx224_0)).trans hx224_0
         replace hx224_1 := (HB.out.cell (World.block_lt_of_cell? w _ hx224_1)).trans hx224_1
         replace hx224_2 := (HB.out.cell (World.block_lt_of_cell? w _ hx224_2)).trans hx224_2
         have HR224_2 := Aside0.mk hi224_2
         have HC224_2 := Aside0.mk hl224_2
         clear hi224_2 hl224_2
         replace p224 := eq_true p224
         replace q224 := eq_true q224
         have p226 : 0 ≤ (x3_1 : Int) := of_decide_eq_true zq10_2
         have q226 : x3_1 < (l0.length : Int) := of_decide_eq_true zq10_2
         obtain ⟨ad226, A226_2, c226_2, e226, hx226_0, hx226_1, hx226_2, hl226_2, hi226_2⟩ := at_T27 HR0.out x3_1 p226 q226
         have hw226_2 := hx226_2
         have hw226_1 := hx226_1
         have hw226_0 := hx226_0
         obtain rfl : ad224 = ad226 := (by injection e226)
         replace hx226_0 := (HB.out.cell (World.block_lt_of_cell? w _ hx226_0)).trans hx226_0
         replace hx226_1 := (HB.out.cell (World.block_lt_of_cell? w _ hx226_1)).trans hx226_1
         replace hx226_2 := (HB.out.cell (World.block_lt_of_cell? w _ hx226_2)).trans hx226_2
         have HR226_2 := Aside0.mk hi226_2
         have HC226_2 := Aside0.mk hl226_2
         clear hi226_2 hl226_2
         replace p226 := eq_true p226
         replace q226 := eq_true q226
         have ea_ := Option.some.inj (hx224_2.symm.trans hx226_2)
         injection ea_ with ea_ en_ ec_
         subst ea_
         subst ec_
         clear en_
         have p228 : 0 ≤ (x3_1 : Int) := of_decide_eq_true zq10_2
         have q228 : x3_1 < (l0.length : Int) := of_decide_eq_true zq10_2
         obtain ⟨ad228, A228_2, c228_2, e228, hx228_0, hx228_1, hx228_2, hl228_2, hi228_2⟩ := at_T27 HR0.out x3_1 p228 q228
         have hw228_2 := hx228_2
         have hw228_1 := hx228_1
         have hw228_0 := hx228_0
         obtain rfl : ad224 = ad228 := (by injection e228)
         replace hx228_0 := (HB.out.cell (World.block_lt_of_cell? w _ hx228_0)).trans hx228_0
         replace hx228_1 := (HB.out.cell (World.block_lt_of_cell? w _ hx228_1)).trans hx228_1
         replace hx228_2 := (HB.out.cell (World.block_lt_of_cell? w _ hx228_2)).trans hx228_2
         have HR228_2 := Aside0.mk hi228_2
         have HC228_2 := Aside0.mk hl228_2
         clear hi228_2 hl228_2
         replace p228 := eq_true p228
         replace q228 := eq_true q228
         have ea_ := Option.some.inj (hx224_2.symm.trans hx228_2)
         injection ea_ with ea_ en_ ec_
         subst ea_
         subst ec_
         clear en_
         refine start_ (n := 44) (S := fun w' => w'.cell? (ad224.add ((x3_1).toNat * 3)) = some (.string ((rd_T27 l0 x3_1).f0)) ∧ w'.cell? ⟨(ad224.add ((x3_1).toNat * 3)).block, (ad224.add ((x3_1).toNat * 3)).off + 1, none⟩ = some (.int .i64 ((rd_T27 l0 x3_1).f1.f0)) ∧ w'.cell? ⟨(ad224.add ((x3_1).toNat * 3)).block, (ad224.add ((x3_1).toNat * 3)).off + 2, none⟩ = some (.slice A224_2 ((rd_T27 l0 x3_1).f1.f1).length c224_2) ∧ w'.cell? (ad224.add ((x3_1).toNat * 3)) = some (.string ((rd_T27 l0 x3_1).f0)) ∧ w'.cell? ⟨(ad224.add ((x3_1).toNat * 3)).block, (ad224.add ((x3_1).toNat * 3)).off + 1, none⟩ = some (.int .i64 ((rd_T27 l0 x3_1).f1.f0)) ∧ w'.cell? ⟨(ad224.add ((x3_1).toNat * 3)).block, (ad224.add ((x3_1).toNat * 3)).off + 2, none⟩ = some (.slice A224_2 ((rd_T27 l0 x3_1).f1.f1).length c224_2) ∧ w'.cell? (ad224.add ((x3_1).toNat * 3)) = some (.string ((rd_T27 l0 x3_1).f0)) ∧ w'.cell? ⟨(ad224.add ((x3_1).toNat * 3)).block, (ad224.add ((x3_1).toNat * 3)).off + 1, none⟩ = some (.int .i64 ((rd_T27 l0 x3_1).f1.f0)) ∧ w'.cell? ⟨(ad224.add ((x3_1).toNat * 3)).block, (ad224.add ((x3_1).toNat * 3)).off + 2, none⟩ = some (.slice A224_2 ((rd_T27 l0 x3_1).f1.f1).length c224_2)) (ds := []) #[false, false, false, false, false, false, false, false, false, false, false, false, false, false, false, false, false, false, false, false, false, false, false, false, false, false, false, false, false, false, false, false, false, false, false, false, false, false, false, false, false, false, false, false] (by kernel_rfl) rfl rfl ⟨((HB.out.cell (World.block_lt_of_cell? w _ hw224_0)).trans hw224_0), ((HB.out.cell (World.block_lt_of_cell? w _ hw224_1)).trans hw224_1), ((HB.out.cell (World.block_lt_of_cell? w _ hw224_2)).trans hw224_2), ((HB.out.cell (World.block_lt_of_cell? w _ hw226_0)).trans hw226_0), ((HB.out.cell (World.block_lt_of_cell? w _ hw226_1)).trans hw226_1), ((HB.out.cell (World.block_lt_of_cell? w _ hw226_2)).trans hw226_2), ((HB.out.cell (World.block_lt_of_cell? w _ hw228_0)).trans hw228_0), ((HB.out.cell (World.block_lt_of_cell? w _ hw228_1)).trans hw228_1), ((HB.out.cell (World.block_lt_of_cell? w _ hw228_2)).trans hw228_2)⟩ (fun hHeld => ?_); refine with_tabW cenotaphref04_Right.tab4 cenotaphref04_Right.bits4 (fun HT_ HW_ => ?_)
         generalize wr.drew = w25 at HB HR224_2 HR226_2 HR228_2 hx224_0 hx224_1 hx224_2 hx226_0 hx226_1 hx226_2 hx228_0 hx228_1 hx228_2 hHeld ⊢
         refine p_ 0 10 (mk_ 44 0x1) ?_
         refine p_ 1 11 (mk_ 44 0x3) ?_
         refine p_ 2 12 (mk_ 44 0x7) ?_
         refine p_ 3 13 (mk_ 44 0xf) ?_
         refine t_ 4 14 (mk_ 44 0x1f) hHeld ?_
         refine one_ (i := 5) (N := some 15) #[true, true, true, true, true, true, false, false, false, false, false, false, false, false, false, false, false, false, false, false, false, false, false, false, false, false, false, false, false, false, false, false, false, false, false, false, false, false, false, false, false, false, false, false] rfl rfl (one_of HT_.out (by kernel_rfl)) (by decide) (fun K hK => ?_)
         refine goes_ Try.func39 (by kernel_rfl) rfl #[.string ((rd_T27 l0 x3_1).f0)] (by rfl) rfl rfl zq10_0 ?_
         with_reducible refine (cenotaphref01_Right.calls k1 ((rd_T27 l0 x3_1).f0) true _ A4.out).mono ?_
         rintro e w' ⟨rfl, ⟨nd, rfl⟩⟩
         refine ⟨_, rfl, ?_⟩
         refine hK.out _ _ ⟨((HB.out.cell (World.block_lt_of_cell? w _ hw224_0)).trans hw224_0), ((HB.out.cell (World.block_lt_of_cell? w _ hw224_1)).trans hw224_1), ((HB.out.cell (World.block_lt_of_cell? w _ hw224_2)).trans hw224_2), ((HB.out.cell (World.block_lt_of_cell? w _ hw226_0)).trans hw226_0), ((HB.out.cell (World.block_lt_of_cell? w _ hw226_1)).trans hw226_1), ((HB.out.cell (World.block_lt_of_cell? w _ hw226_2)).trans hw226_2), ((HB.out.cell (World.block_lt_of_cell? w _ hw228_0)).trans hw228_0), ((HB.out.cell (World.block_lt_of_cell? w _ hw228_1)).trans hw228_1), ((HB.out.cell (World.block_lt_of_cell? w _ hw228_2)).trans hw228_2)⟩ (fun hHeld => ?_)
         clear hK K
         refine norm_ (a' := ?_) ?_ ?_
         rotate_left
         ·show Act.put _ (some 15) _ = _
          simp only [Act.put, List.setIfInBounds_toArray, List.set_cons_zero, List.set_cons_succ, i64_w, i32_w]
          rfl
         refine p_ 6 16 (mk_ 44 0x7f) ?_
         refine p_ 7 17 (mk_ 44 0xff) ?_
         refine p_ 8 18 (mk_ 44 0x1ff) ?_
         refine p_ 9 19 (mk_ 44 0x3ff) ?_
         refine p_ 10 20 (mk_ 44 0x7ff) ?_
         refine p_ 11 21 (mk_ 44 0xfff) ?_
         refine t_ 12 22 (mk_ 44 0x1fff) hHeld ?_
         refine one_ (i := 13) (N := some 23) #[true, true, true, true, true, true, true, true, true, true, true, true, true, true, false, false, false, false, false, false, false, false, false, false, false, false, false, false, false, false, false, false, false, false, false, false, false, false, false, false, false, false, false, false] rfl rfl (one_of HT_.out (by kernel_rfl)) (by decide) (fun K hK => ?_)
         refine goes_ Try.func40 (by kernel_rfl) rfl #[.agg #[.int .i64 ((rd_T27 l0 x3_1).f1.f0), .slice A224_2 ((rd_T27 l0 x3_1).f1.f1).length c224_2]] (by rfl) rfl rfl zq10_0 ?_
         with_reducible refine (cenotaphref02_Right.calls k1 ((rd_T27 l0 x3_1).f1.f0) _ _ ((rd_T27 l0 x3_1).f1.f1) true _ ?side1 ?side2 A6.out).mono ?_
         (case side1 => repeat (first | exact (Kd.C_below HR226_2.out zq10_1) | (with_reducible refine Kd.C_alloc ?_ _) | (with_reducible refine Kd.C_drewN ?_ _) | (with_reducible refine Kd.C_drew ?_)))
         (case side2 => exact HC226_2.out)
         rintro e w26 ⟨rfl, hb⟩
         refine ⟨_, rfl, ?_⟩
         replace HB := Aside0.mk (below_step zq10_1 hb)
         (try clear hb)
         (try clear hb2)
         (try clear hk)
         (try clear hi)
         refine hK.out _ _ ⟨((HB.out.cell (World.block_lt_of_cell? w _ hw224_0)).trans hw224_0), ((HB.out.cell (World.block_lt_of_cell? w _ hw224_1)).trans hw224_1), ((HB.out.cell (World.block_lt_of_cell? w _ hw224_2)).trans hw224_2), ((HB.out.cell (World.block_lt_of_cell? w _ hw226_0)).trans hw226_0), ((HB.out.cell (World.block_lt_of_cell? w _ hw226_1)).trans hw226_1), ((HB.out.cell (World.block_lt_of_cell? w _ hw226_2)).trans hw226_2), ((HB.out.cell (World.block_lt_of_cell? w _ hw228_0)).trans hw228_0), ((HB.out.cell (World.block_lt_of_cell? w _ hw228_1)).trans hw228_1), ((HB.out.cell (World.block_lt_of_cell? w _ hw228_2)).trans hw228_2)⟩ (fun hHeld => ?_)
         clear hK K
         refine norm_ (a' := ?_) ?_ ?_
         rotate_left
         ·show Act.put _ (some 23) _ = _
          simp only [Act.put, List.setIfInBounds_toArray, List.set_cons_zero, List.set_cons_succ, i64_w, i32_w]
          rfl
         refine p_ 14 24 (mk_ 44 0x7fff) ?_
         refine p_ 15 25 (mk_ 44 0xffff) ?_
         refine p_ 16 26 (mk_ 44 0x1ffff) ?_
         refine p_ 17 27 (mk_ 44 0x3ffff) ?_
         refine p_ 18 28 (mk_ 44 0x7ffff) ?_
         refine p_ 19 29 (mk_ 44 0xfffff) ?_
         refine p_ 20 30 (mk_ 44 0x1fffff) ?_
         refine t_ 21 31 (mk_ 44 0x3fffff) hHeld ?_
         refine one_ (i := 22) (N := some 32) #[true, true, true, true, true, true, true, true, true, true, true, true, true, true, true, true, true, true, true, true, true, true, true, false, false, false, false, false, false, false, false, false, false, false, false, false, false, false, false, false, false, false, false, false] rfl rfl (one_of HT_.out (by kernel_rfl)) (by decide) (fun K hK => ?_)
         refine goes_ Try.func41 (by kernel_rfl) rfl #[.agg #[.int .i64 ((rd_T27 l0 x3_1).f1.f0), .slice A224_2 ((rd_T27 l0 x3_1).f1.f1).length c224_2]] (by rfl) rfl rfl zq10_0 ?_
         with_reducible refine (cenotaphref02_Count.calls ((rd_T27 l0 x3_1).f1.f0) _ _ ((rd_T27 l0 x3_1).f1.f1) t229 _ ?side1 ?side2 A8.out).mono ?_
         (case side1 => repeat (first | exact (Kd.C_below HR228_2.out HB.out) | (with_reducible refine Kd.C_alloc ?_ _) | (with_reducible refine Kd.C_drewN ?_ _) | (with_reducible refine Kd.C_drew ?_)))
         (case side2 => exact HC228_2.out)
         rintro e w27 ⟨rfl, hb⟩
         refine ⟨_, rfl, ?_⟩
         replace HB := Aside0.mk (below_step zq10_1 hb)
         (try clear hb)
         (try clear hb2)
         (try clear hk)
         (try clear hi)
         refine hK.out _ _ ⟨((HB.out.cell (World.block_lt_of_cell? w _ hw224_0)).trans hw224_0), ((HB.out.cell (World.block_lt_of_cell? w _ hw224_1)).trans hw224_1), ((HB.out.cell (World.block_lt_of_cell? w _ hw224_2)).trans hw224_2), ((HB.out.cell (World.block_lt_of_cell? w _ hw226_0)).trans hw226_0), ((HB.out.cell (World.block_lt_of_cell? w _ hw226_1)).trans hw226_1), ((HB.out.cell (World.block_lt_of_cell? w _ hw226_2)).trans hw226_2), ((HB.out.cell (World.block_lt_of_cell? w _ hw228_0)).trans hw228_0), ((HB.out.cell (World.block_lt_of_cell? w _ hw228_1)).trans hw228_1), ((HB.out.cell (World.block_lt_of_cell? w _ hw228_2)).trans hw228_2)⟩ (fun hHeld => ?_)
         clear hK K
         refine norm_ (a' := ?_) ?_ ?_
         rotate_left
         ·show Act.put _ (some 32) _ = _
          simp only [Act.put, List.setIfInBounds_toArray, List.set_cons_zero, List.set_cons_succ, i64_w, i32_w]
          rfl
         refine p_ 23 33 (mk_ 44 0xffffff) ?_
         refine p_ 24 34 (mk_ 44 0x1ffffff) ?_
         refine p_ 25 35 (mk_ 44 0x3ffffff) ?_
         refine p_ 26 36 (mk_ 44 0x7ffffff) ?_
         refine p_ 27 37 (mk_ 44 0xfffffff) ?_
         refine p_ 28 38 (mk_ 44 0x1fffffff) ?_
         refine u_ 29 39 (mk_ 44 0x3fffffff) ?_
         refine u_ 30 40 (mk_ 44 0x7fffffff) ?_
         refine u_ 31 41 (mk_ 44 0xffffffff) ?_
         refine u_ 32 42 (mk_ 44 0x1ffffffff) ?_
         refine u_ 33 43 (mk_ 44 0x3ffffffff) ?_
         refine u_ 34 44 (mk_ 44 0x7ffffffff) ?_
         refine u_ 35 45 (mk_ 44 0xfffffffff) ?_
         refine u_ 36 46 (mk_ 44 0x1fffffffff) ?_
         refine u_ 37 47 (mk_ 44 0x3fffffffff) ?_
         refine u_ 38 48 (mk_ 44 0x7fffffffff) ?_
         refine u_ 39 49 (mk_ 44 0xffffffffff) ?_
         refine u_ 40 50 (mk_ 44 0x1ffffffffff) ?_
         refine u_ 41 51 (mk_ 44 0x3ffffffffff) ?_
         refine p_ 42 52 (mk_ 44 0x7ffffffffff) ?_
         refine p_ 43 53 (mk_ 44 0xfffffffffff) ?_
         refine done_ (done_of HT_.out (by kernel_rfl)) ?_
         try go_wp2
         go_roundg k1
         case measure => have := HK1.out; omega
         case rel => exact ⟨(wrap64 (x3_1 + 1)), zq10_3, H', ⟨by have := HK1.out; omega⟩, ⟨by repeat (first | (with_reducible first | exact HB.out | apply below_alloc | apply pw_below_drewN | apply below_drew1) | exact HB.out)⟩⟩
      ·replace c7 := Bool.eq_false_iff.mpr c7
       subst c7
       have H1 : (some false) = some r := by rw [if_neg (show ¬ (false = true) by decide)] at H; exact H
       clear H
       have H := H1
       clear H1
       obtain rfl := Option.some.inj H
       try go_wp2
       replace HB := Aside0.mk (below_drew1 HB.out)
       have p224 : 0 ≤ (x3_1 : Int) := of_decide_eq_true zq10_2
       have q224 : x3_1 < (l0.length : Int) := of_decide_eq_true zq10_2
       obtain ⟨ad224, A224_2, c224_2, e224, hx224_0, hx224_1, hx224_2, hl224_2, hi224_2⟩ := at_T27 HR0.out x3_1 p224 q224
       have hw224_2 := hx224_2
       have hw224_1 := hx224_1
       have hw224_0 := hx224_0
       cases e224
       replace hx224_0 := (HB.out.cell (World.block_lt_of_cell? w _ hx224_0)).trans hx224_0
       replace hx224_1 := (HB.out.cell (World.block_lt_of_cell? w _ hx224_1)).trans hx224_1
       replace hx224_2 := (HB.out.cell (World.block_lt_of_cell? w _ hx224_2)).trans hx224_2
       have HR224_2 := Aside0.mk hi224_2
       have HC224_2 := Aside0.mk hl224_2
       clear hi224_2 hl224_2
       replace p224 := eq_true p224
       replace q224 := eq_true q224
       have p226 : 0 ≤ (x3_1 : Int) := of_decide_eq_true zq10_2
       have q226 : x3_1 < (l0.length : Int) := of_decide_eq_true zq10_2
       obtain ⟨ad226, A226_2, c226_2, e226, hx226_0, hx226_1, hx226_2, hl226_2, hi226_2⟩ := at_T27 HR0.out x3_1 p226 q226
       have hw226_2 := hx226_2
       have hw226_1 := hx226_1
       have hw226_0 := hx226_0
       obtain rfl : ad224 = ad226 := (by injection e226)
       replace hx226_0 := (HB.out.cell (World.block_lt_of_cell? w _ hx226_0)).trans hx226_0
       replace hx226_1 := (HB.out.cell (World.block_lt_of_cell? w _ hx226_1)).trans hx226_1
       replace hx226_2 := (HB.out.cell (World.block_lt_of_cell? w _ hx226_2)).trans hx226_2
       have HR226_2 := Aside0.mk hi226_2
       have HC226_2 := Aside0.mk hl226_2
       clear hi226_2 hl226_2
       replace p226 := eq_true p226
       replace q226 := eq_true q226
       have ea_ := Option.some.inj (hx224_2.symm.trans hx226_2)
       injection ea_ with ea_ en_ ec_
       subst ea_
       subst ec_
       clear en_
       refine start_ (n := 44) (S := fun w' => w'.cell? (ad224.add ((x3_1).toNat * 3)) = some (.string ((rd_T27 l0 x3_1).f0)) ∧ w'.cell? ⟨(ad224.add ((x3_1).toNat * 3)).block, (ad224.add ((x3_1).toNat * 3)).off + 1, none⟩ = some (.int .i64 ((rd_T27 l0 x3_1).f1.f0)) ∧ w'.cell? ⟨(ad224.add ((x3_1).toNat * 3)).block, (ad224.add ((x3_1).toNat * 3)).off + 2, none⟩ = some (.slice A224_2 ((rd_T27 l0 x3_1).f1.f1).length c224_2) ∧ w'.cell? (ad224.add ((x3_1).toNat * 3)) = some (.string ((rd_T27 l0 x3_1).f0)) ∧ w'.cell? ⟨(ad224.add ((x3_1).toNat * 3)).block, (ad224.add ((x3_1).toNat * 3)).off + 1, none⟩ = some (.int .i64 ((rd_T27 l0 x3_1).f1.f0)) ∧ w'.cell? ⟨(ad224.add ((x3_1).toNat * 3)).block, (ad224.add ((x3_1).toNat * 3)).off + 2, none⟩ = some (.slice A224_2 ((rd_T27 l0 x3_1).f1.f1).length c224_2)) (ds := []) #[false, false, false, false, false, false, false, false, false, false, false, false, false, false, false, false, false, false, false, false, false, false, false, false, false, false, false, false, false, false, false, false, false, false, false, false, false, false, false, false, false, false, false, false] (by kernel_rfl) rfl rfl ⟨((HB.out.cell (World.block_lt_of_cell? w _ hw224_0)).trans hw224_0), ((HB.out.cell (World.block_lt_of_cell? w _ hw224_1)).trans hw224_1), ((HB.out.cell (World.block_lt_of_cell? w _ hw224_2)).trans hw224_2), ((HB.out.cell (World.block_lt_of_cell? w _ hw226_0)).trans hw226_0), ((HB.out.cell (World.block_lt_of_cell? w _ hw226_1)).trans hw226_1), ((HB.out.cell (World.block_lt_of_cell? w _ hw226_2)).trans hw226_2)⟩ (fun hHeld => ?_); refine with_tabW cenotaphref04_Right.tab4 cenotaphref04_Right.bits4 (fun HT_ HW_ => ?_)
       generalize wr.drew = w28 at HB HR224_2 HR226_2 hx224_0 hx224_1 hx224_2 hx226_0 hx226_1 hx226_2 hHeld ⊢
       refine p_ 0 10 (mk_ 44 0x1) ?_
       refine p_ 1 11 (mk_ 44 0x3) ?_
       refine p_ 2 12 (mk_ 44 0x7) ?_
       refine p_ 3 13 (mk_ 44 0xf) ?_
       refine t_ 4 14 (mk_ 44 0x1f) hHeld ?_
       refine one_ (i := 5) (N := some 15) #[true, true, true, true, true, true, false, false, false, false, false, false, false, false, false, false, false, false, false, false, false, false, false, false, false, false, false, false, false, false, false, false, false, false, false, false, false, false, false, false, false, false, false, false] rfl rfl (one_of HT_.out (by kernel_rfl)) (by decide) (fun K hK => ?_)
       refine goes_ Try.func39 (by kernel_rfl) rfl #[.string ((rd_T27 l0 x3_1).f0)] (by rfl) rfl rfl zq10_0 ?_
       with_reducible refine (cenotaphref01_Right.calls k1 ((rd_T27 l0 x3_1).f0) true _ A4.out).mono ?_
       rintro e w' ⟨rfl, ⟨nd, rfl⟩⟩
       refine ⟨_, rfl, ?_⟩
       refine hK.out _ _ ⟨((HB.out.cell (World.block_lt_of_cell? w _ hw224_0)).trans hw224_0), ((HB.out.cell (World.block_lt_of_cell? w _ hw224_1)).trans hw224_1), ((HB.out.cell (World.block_lt_of_cell? w _ hw224_2)).trans hw224_2), ((HB.out.cell (World.block_lt_of_cell? w _ hw226_0)).trans hw226_0), ((HB.out.cell (World.block_lt_of_cell? w _ hw226_1)).trans hw226_1), ((HB.out.cell (World.block_lt_of_cell? w _ hw226_2)).trans hw226_2)⟩ (fun hHeld => ?_)
       clear hK K
       refine norm_ (a' := ?_) ?_ ?_
       rotate_left
       ·show Act.put _ (some 15) _ = _
        simp only [Act.put, List.setIfInBounds_toArray, List.set_cons_zero, List.set_cons_succ, i64_w, i32_w]
        rfl
       refine p_ 6 16 (mk_ 44 0x7f) ?_
       refine p_ 7 17 (mk_ 44 0xff) ?_
       refine p_ 8 18 (mk_ 44 0x1ff) ?_
       refine p_ 9 19 (mk_ 44 0x3ff) ?_
       refine p_ 10 20 (mk_ 44 0x7ff) ?_
       refine p_ 11 21 (mk_ 44 0xfff) ?_
       refine t_ 12 22 (mk_ 44 0x1fff) hHeld ?_
       refine one_ (i := 13) (N := some 23) #[true, true, true, true, true, true, true, true, true, true, true, true, true, true, false, false, false, false, false, false, false, false, false, false, false, false, false, false, false, false, false, false, false, false, false, false, false, false, false, false, false, false, false, false] rfl rfl (one_of HT_.out (by kernel_rfl)) (by decide) (fun K hK => ?_)
       refine goes_ Try.func40 (by kernel_rfl) rfl #[.agg #[.int .i64 ((rd_T27 l0 x3_1).f1.f0), .slice A224_2 ((rd_T27 l0 x3_1).f1.f1).length c224_2]] (by rfl) rfl rfl zq10_0 ?_
       with_reducible refine (cenotaphref02_Right.calls k1 ((rd_T27 l0 x3_1).f1.f0) _ _ ((rd_T27 l0 x3_1).f1.f1) false _ ?side1 ?side2 A6.out).mono ?_
       (case side1 => repeat (first | exact (Kd.C_below HR226_2.out zq10_1) | (with_reducible refine Kd.C_alloc ?_ _) | (with_reducible refine Kd.C_drewN ?_ _) | (with_reducible refine Kd.C_drew ?_)))
       (case side2 => exact HC226_2.out)
       rintro e w29 ⟨rfl, hb⟩
       refine ⟨_, rfl, ?_⟩
       replace HB := Aside0.mk (below_step zq10_1 hb)
       (try clear hb)
       (try clear hb2)
       (try clear hk)
       (try clear hi)
       refine hK.out _ _ ⟨((HB.out.cell (World.block_lt_of_cell? w _ hw224_0)).trans hw224_0), ((HB.out.cell (World.block_lt_of_cell? w _ hw224_1)).trans hw224_1), ((HB.out.cell (World.block_lt_of_cell? w _ hw224_2)).trans hw224_2), ((HB.out.cell (World.block_lt_of_cell? w _ hw226_0)).trans hw226_0), ((HB.out.cell (World.block_lt_of_cell? w _ hw226_1)).trans hw226_1), ((HB.out.cell (World.block_lt_of_cell? w _ hw226_2)).trans hw226_2)⟩ (fun hHeld => ?_)
       clear hK K
       refine norm_ (a' := ?_) ?_ ?_
       rotate_left
       ·show Act.put _ (some 23) _ = _
        simp only [Act.put, List.setIfInBounds_toArray, List.set_cons_zero, List.set_cons_succ, i64_w, i32_w]
        rfl
       refine p_ 14 24 (mk_ 44 0x7fff) ?_
       refine p_ 15 25 (mk_ 44 0xffff) ?_
       refine p_ 16 26 (mk_ 44 0x1ffff) ?_
       refine u_ 17 27 (mk_ 44 0x3ffff) ?_
       refine u_ 18 28 (mk_ 44 0x7ffff) ?_
       refine u_ 19 29 (mk_ 44 0xfffff) ?_
       refine u_ 20 30 (mk_ 44 0x1fffff) ?_
       refine u_ 21 31 (mk_ 44 0x3fffff) ?_
       refine u_ 22 32 (mk_ 44 0x7fffff) ?_
       refine u_ 23 33 (mk_ 44 0xffffff) ?_
       refine p_ 24 34 (mk_ 44 0x1ffffff) ?_
       refine p_ 25 35 (mk_ 44 0x3ffffff) ?_
       refine u_ 26 36 (mk_ 44 0x7ffffff) ?_
       refine u_ 27 37 (mk_ 44 0xfffffff) ?_
       refine u_ 28 38 (mk_ 44 0x1fffffff) ?_
       refine u_ 29 39 (mk_ 44 0x3fffffff) ?_
       refine u_ 30 40 (mk_ 44 0x7fffffff) ?_
       refine u_ 31 41 (mk_ 44 0xffffffff) ?_
       refine u_ 32 42 (mk_ 44 0x1ffffffff) ?_
       refine u_ 33 43 (mk_ 44 0x3ffffffff) ?_
       refine u_ 34 44 (mk_ 44 0x7ffffffff) ?_
       refine u_ 35 45 (mk_ 44 0xfffffffff) ?_
       refine u_ 36 46 (mk_ 44 0x1fffffffff) ?_
       refine u_ 37 47 (mk_ 44 0x3fffffffff) ?_
       refine u_ 38 48 (mk_ 44 0x7fffffffff) ?_
       refine u_ 39 49 (mk_ 44 0xffffffffff) ?_
       refine u_ 40 50 (mk_ 44 0x1ffffffffff) ?_
       refine u_ 41 51 (mk_ 44 0x3ffffffffff) ?_
       refine u_ 42 52 (mk_ 44 0x7ffffffffff) ?_
       refine p_ 43 53 (mk_ 44 0xfffffffffff) ?_
       refine done_ (done_of HT_.out (by kernel_rfl)) ?_
       try go_wp2
       go_ret
       exact ⟨by first | rfl | (simp [errW_none, errW_some] <;> rfl) | (simp [*, errW_none, errW_some] <;> rfl), by repeat (first | (with_reducible first | exact HB.out | apply below_alloc | apply pw_below_drewN | apply below_drew1) | exact HB.out)⟩
     ·replace c5 := Bool.eq_false_iff.mpr c5
      subst c5
      have H1 : (some false) = some r := by rw [if_neg (show ¬ (false = true) by decide)] at H; exact H
      clear H
      have H := H1
      clear H1
      obtain rfl := Option.some.inj H
      try go_wp2
      replace HB := Aside0.mk (below_drew1 HB.out)
      have p224 : 0 ≤ (x3_1 : Int) := of_decide_eq_true zq10_2
      have q224 : x3_1 < (l0.length : Int) := of_decide_eq_true zq10_2
      obtain ⟨ad224, A224_2, c224_2, e224, hx224_0, hx224_1, hx224_2, hl224_2, hi224_2⟩ := at_T27 HR0.out x3_1 p224 q224
      have hw224_2 := hx224_2
      have hw224_1 := hx224_1
      have hw224_0 := hx224_0
      cases e224
      replace hx224_0 := (HB.out.cell (World.block_lt_of_cell? w _ hx224_0)).trans hx224_0
      replace hx224_1 := (HB.out.cell (World.block_lt_of_cell? w _ hx224_1)).trans hx224_1
      replace hx224_2 := (HB.out.cell (World.block_lt_of_cell? w _ hx224_2)).trans hx224_2
      have HR224_2 := Aside0.mk hi224_2
      have HC224_2 := Aside0.mk hl224_2
      clear hi224_2 hl224_2
      replace p224 := eq_true p224
      replace q224 := eq_true q224
      refine start_ (n := 44) (S := fun w' => w'.cell? (ad224.add ((x3_1).toNat * 3)) = some (.string ((rd_T27 l0 x3_1).f0)) ∧ w'.cell? ⟨(ad224.add ((x3_1).toNat * 3)).block, (ad224.add ((x3_1).toNat * 3)).off + 1, none⟩ = some (.int .i64 ((rd_T27 l0 x3_1).f1.f0)) ∧ w'.cell? ⟨(ad224.add ((x3_1).toNat * 3)).block, (ad224.add ((x3_1).toNat * 3)).off + 2, none⟩ = some (.slice A224_2 ((rd_T27 l0 x3_1).f1.f1).length c224_2)) (ds := []) #[false, false, false, false, false, false, false, false, false, false, false, false, false, false, false, false, false, false, false, false, false, false, false, false, false, false, false, false, false, false, false, false, false, false, false, false, false, false, false, false, false, false, false, false] (by kernel_rfl) rfl rfl ⟨((HB.out.cell (World.block_lt_of_cell? w _ hw224_0)).trans hw224_0), ((HB.out.cell (World.block_lt_of_cell? w _ hw224_1)).trans hw224_1), ((HB.out.cell (World.block_lt_of_cell? w _ hw224_2)).trans hw224_2)⟩ (fun hHeld => ?_); refine with_tabW cenotaphref04_Right.tab4 cenotaphref04_Right.bits4 (fun HT_ HW_ => ?_)
      generalize wr.drew = w30 at HB HR224_2 hx224_0 hx224_1 hx224_2 hHeld ⊢
      refine p_ 0 10 (mk_ 44 0x1) ?_
      refine p_ 1 11 (mk_ 44 0x3) ?_
      refine p_ 2 12 (mk_ 44 0x7) ?_
      refine p_ 3 13 (mk_ 44 0xf) ?_
      refine t_ 4 14 (mk_ 44 0x1f) hHeld ?_
      refine one_ (i := 5) (N := some 15) #[true, true, true, true, true, true, false, false, false, false, false, false, false, false, false, false, false, false, false, false, false, false, false, false, false, false, false, false, false, false, false, false, false, false, false, false, false, false, false, false, false, false, false, false] rfl rfl (one_of HT_.out (by kernel_rfl)) (by decide) (fun K hK => ?_)
      refine goes_ Try.func39 (by kernel_rfl) rfl #[.string ((rd_T27 l0 x3_1).f0)] (by rfl) rfl rfl zq10_0 ?_
      with_reducible refine (cenotaphref01_Right.calls k1 ((rd_T27 l0 x3_1).f0) false _ A4.out).mono ?_
      rintro e w' ⟨rfl, ⟨nd, rfl⟩⟩
      refine ⟨_, rfl, ?_⟩
      refine hK.out _ _ ⟨((HB.out.cell (World.block_lt_of_cell? w _ hw224_0)).trans hw224_0), ((HB.out.cell (World.block_lt_of_cell? w _ hw224_1)).trans hw224_1), ((HB.out.cell (World.block_lt_of_cell? w _ hw224_2)).trans hw224_2)⟩ (fun hHeld => ?_)
      clear hK K
      refine norm_ (a' := ?_) ?_ ?_
      rotate_left
      ·show Act.put _ (some 15) _ = _
       simp only [Act.put, List.setIfInBounds_toArray, List.set_cons_zero, List.set_cons_succ, i64_w, i32_w]
       rfl
      refine p_ 6 16 (mk_ 44 0x7f) ?_
      refine p_ 7 17 (mk_ 44 0xff) ?_
      refine u_ 8 18 (mk_ 44 0x1ff) ?_
      refine u_ 9 19 (mk_ 44 0x3ff) ?_
      refine u_ 10 20 (mk_ 44 0x7ff) ?_
      refine u_ 11 21 (mk_ 44 0xfff) ?_
      refine u_ 12 22 (mk_ 44 0x1fff) ?_
      refine u_ 13 23 (mk_ 44 0x3fff) ?_
      refine u_ 14 24 (mk_ 44 0x7fff) ?_
      refine p_ 15 25 (mk_ 44 0xffff) ?_
      refine p_ 16 26 (mk_ 44 0x1ffff) ?_
      refine u_ 17 27 (mk_ 44 0x3ffff) ?_
      refine u_ 18 28 (mk_ 44 0x7ffff) ?_
      refine u_ 19 29 (mk_ 44 0xfffff) ?_
      refine u_ 20 30 (mk_ 44 0x1fffff) ?_
      refine u_ 21 31 (mk_ 44 0x3fffff) ?_
      refine u_ 22 32 (mk_ 44 0x7fffff) ?_
      refine u_ 23 33 (mk_ 44 0xffffff) ?_
      refine p_ 24 34 (mk_ 44 0x1ffffff) ?_
      refine p_ 25 35 (mk_ 44 0x3ffffff) ?_
      refine u_ 26 36 (mk_ 44 0x7ffffff) ?_
      refine u_ 27 37 (mk_ 44 0xfffffff) ?_
      refine u_ 28 38 (mk_ 44 0x1fffffff) ?_
      refine u_ 29 39 (mk_ 44 0x3fffffff) ?_
      refine u_ 30 40 (mk_ 44 0x7fffffff) ?_
      refine u_ 31 41 (mk_ 44 0xffffffff) ?_
      refine u_ 32 42 (mk_ 44 0x1ffffffff) ?_
      refine u_ 33 43 (mk_ 44 0x3ffffffff) ?_
      refine u_ 34 44 (mk_ 44 0x7ffffffff) ?_
      refine u_ 35 45 (mk_ 44 0xfffffffff) ?_
      refine u_ 36 46 (mk_ 44 0x1fffffffff) ?_
      refine u_ 37 47 (mk_ 44 0x3fffffffff) ?_
      refine u_ 38 48 (mk_ 44 0x7fffffffff) ?_
      refine u_ 39 49 (mk_ 44 0xffffffffff) ?_
      refine u_ 40 50 (mk_ 44 0x1ffffffffff) ?_
      refine u_ 41 51 (mk_ 44 0x3ffffffffff) ?_
      refine u_ 42 52 (mk_ 44 0x7ffffffffff) ?_
      refine p_ 43 53 (mk_ 44 0xfffffffffff) ?_
      refine done_ (done_of HT_.out (by kernel_rfl)) ?_
      try go_wp2
      go_ret
      exact ⟨by first | rfl | (simp [errW_none, errW_some] <;> rfl) | (simp [*, errW_none, errW_some] <;> rfl), by repeat (first | (with_reducible first | exact HB.out | apply below_alloc | apply pw_below_drewN | apply below_drew1) | exact HB.out)⟩
    ·rw [if_neg c3] at H
     exact absurd H (by simp)
   ·rw [if_neg c2] at H
    have c2b0 : decide (x3_1 < (l0.length : Int)) = false := decide_eq_false c2
    clear c2
    obtain rfl := Option.some.inj H
    go_wp2
    go_ret
    exact ⟨by first | rfl | (simp [errW_none, errW_some] <;> rfl) | (simp [*, errW_none, errW_some] <;> rfl), by repeat (first | (with_reducible first | exact HB.out | apply below_alloc | apply pw_below_drewN | apply below_drew1) | exact HB.out)⟩

/-! ### cenotaphlaw04_KnowRights: function 3 -/
theorem zq3_0 {p_ : Prop} (h_ : p_ := by repeat (first | (with_reducible first | exact HB.out | apply below_alloc | apply pw_below_drewN | apply below_drew1) | exact HB.out)) : p_ := h_
theorem zq3_1 {p_ : Prop} (h_ : p_ := by first | (with_reducible assumption) | assumption) : p_ := h_
def cenotaphlaw04_KnowRights.l0 : Nat → List (S27) → Int → Option (Bool)
 | 0, _, _ => none
 | k + 1, x0, x3 => if x3 < (x0.length : Int) then (if 0 ≤ x3 then (if (((rd_T27 x0 x3).f1.f1).length : Int) > 500 then ((cenotaphlaw04_told.f k).bind fun t238 => (some t238)) else (cenotaphlaw04_KnowRights.l0 k x0 (wrap64 (x3 + 1)))) else (none)) else ((cenotaphlaw04_told.f k).bind fun t239 => (if t239 = true then ((cenotaphlaw04_To.f k x0).bind fun t240 => ((know_Right.f k t240).bind fun t243 => ((cenotaphref04_Right.f k x0).bind fun t244 => (some (t243 == t244))))) else (none)))
def cenotaphlaw04_KnowRights.f (k : Nat) (l0 : List (S27)) : Option (Bool) := if 0 ≤ (mn (l0.length : Int) 20) then (if (mn (l0.length : Int) 20) ≤ (l0.length : Int) then (cenotaphlaw04_KnowRights.l0 k (l0.take ((mn (l0.length : Int) 20) : Int).toNat) 0) else (none)) else (none)
theorem cenotaphlaw04_KnowRights.mono_l : ∀ k, (∀ y0 y1, LeO (cenotaphlaw04_KnowRights.l0 k y0 y1) (cenotaphlaw04_KnowRights.l0 (k + 1) y0 y1))
 | 0 => fun _ _ r h => by simp [cenotaphlaw04_KnowRights.l0] at h
 | k + 1 => by
  have ih0 := cenotaphlaw04_KnowRights.mono_l k
  ·intro y0 y1
   unfold cenotaphlaw04_KnowRights.l0
   repeat' first
   | (with_reducible exact ih0 _ _)
   | (with_reducible exact cenotaphlaw04_To.mono _ _)
   | (with_reducible exact cenotaphlaw04_told.mono _)
   | (with_reducible exact cenotaphref04_Right.mono _ _)
   | (with_reducible exact know_Right.mono _ _)
   | (with_reducible exact LeO.refl _)
   | (with_reducible exact LeO.none _)
   | (with_reducible refine LeO.ite ?_ ?_)
   | (with_reducible refine LeO.bind ?_ (fun _ => ?_))
   | exact ih0 _ _
   | exact cenotaphlaw04_To.mono _ _
   | exact cenotaphlaw04_told.mono _
   | exact cenotaphref04_Right.mono _ _
   | exact know_Right.mono _ _
   | exact LeO.none _
   | refine LeO.ite ?_ ?_
   | refine LeO.bind ?_ (fun _ => ?_)
theorem cenotaphlaw04_KnowRights.mono : ∀ a0 k, LeO (cenotaphlaw04_KnowRights.f k a0) (cenotaphlaw04_KnowRights.f (k + 1) a0) := by
 intro a0 k
 have ih0 := cenotaphlaw04_KnowRights.mono_l k
 unfold cenotaphlaw04_KnowRights.f
 repeat' first
   | (with_reducible exact ih0 _ _)
   | (with_reducible exact cenotaphlaw04_To.mono _ _)
   | (with_reducible exact cenotaphlaw04_told.mono _)
   | (with_reducible exact cenotaphref04_Right.mono _ _)
   | (with_reducible exact know_Right.mono _ _)
   | (with_reducible exact LeO.refl _)
   | (with_reducible exact LeO.none _)
   | (with_reducible refine LeO.ite ?_ ?_)
   | (with_reducible refine LeO.bind ?_ (fun _ => ?_))
   | exact ih0 _ _
   | exact cenotaphlaw04_To.mono _ _
   | exact cenotaphlaw04_told.mono _
   | exact cenotaphref04_Right.mono _ _
   | exact know_Right.mono _ _
   | exact LeO.none _
   | refine LeO.ite ?_ ?_
   | refine LeO.bind ?_ (fun _ => ?_)
set_option maxHeartbeats 8000000 in
set_option maxRecDepth 100000 in
theorem cenotaphlaw04_KnowRights.calls (k : Nat) (A0 : Option Addr) (c0 : Nat) (l0 : List (S27)) (r : Bool) (w : World) (hr0 : Kd.C k27 w A0 l0.length l0) (hc0 : l0.length ≤ c0) (h : cenotaphlaw04_KnowRights.f k l0 = some r) :
  Calls Try.prog 3 #[.slice A0 l0.length c0] w fun e w' => e = .returned (.bool r) ∧ Below w.heap.size w w' := by
 have HR0 := Aside0.mk hr0
 have HC0 := Aside0.mk hc0
 clear hr0 hc0
 have HB := Aside0.mk (Below.refl w.heap.size w)
 have H := h
 unfold cenotaphlaw04_KnowRights.f at H
 clear h
 obtain ⟨ji2, hji2⟩ : ∃ j_ : Int, (mn (l0.length : Int) 20) = j_ := ⟨_, rfl⟩
 replace H : (if 0 ≤ (ji2) then (if (ji2) ≤ (l0.length : Int) then (cenotaphlaw04_KnowRights.l0 k (l0.take ((ji2) : Int).toNat) 0) else (none)) else (none)) = some r := by first | (rw [hji2] at H; exact H) | (simp only [hji2] at H ⊢; exact H)
 (try (have hji2h : ji2 ≤ 20 := by (rw [← hji2]; unfold mn; (repeat' split) <;> omega)))
 (try (have hji2g : ji2 ≤ 64 := by omega))
 (try (have hji2l : 0 ≤ ji2 := by (rw [← hji2]; unfold mn; (repeat' split) <;> omega)))
 (try (have hji2m : 0 ≤ ji2 := by omega))
 have hji2_ : (if 20 < (l0.length : Int) then 20 else (l0.length : Int)) = ji2 := hji2
 by_cases c3 : 0 ≤ (ji2)
 ·rw [if_pos c3] at H
  have c3b0 := eq_true c3
  have c3b1 : decide (0 ≤ (ji2)) = true := decide_eq_true c3
  clear c3
  by_cases c4 : (ji2) ≤ (l0.length : Int)
  ·rw [if_pos c4] at H
   have c4b0 := eq_true c4
   have c4b1 : decide ((ji2) ≤ (l0.length : Int)) = true := decide_eq_true c4
   clear c4
   obtain ⟨y233, hy233⟩ : ∃ y_ : List (S27), y_ = (l0.take ((ji2) : Int).toNat) := ⟨_, rfl⟩
   replace H : (cenotaphlaw04_KnowRights.l0 k y233 0) = some r := by first | (rw [hy233]; with_reducible exact H) | (have H2_ := (Option.bind_some _ _).symm.trans H; rw [hy233]; with_reducible exact H2_) | (have H2_ := (Option.bind_some _ _).symm.trans H; with_reducible exact H2_) | with_reducible exact H | (rw [hy233]; exact H) | exact H
   have Ny233 := Aside0.mk hy233
   clear hy233
   have H' := Aside0.mk H
   clear H
   have q5 : ((ji2) : Int) ≤ ((l0.length : Int) : Int) := of_decide_eq_true zq3_1
   obtain ⟨i05, hi05, _, hsz5, _⟩ := info_parts info27
   have hroom5 : l0.length ≤ c0 := HC0.out
   have hC5 : Kd.C k27 _ A0 l0.length l0 := HR0.out
   have hcut5 := cut_to (P := Try.prog) 22 27 .i64 Try.underlying22 hi05 A0 l0.length c0 (ji2) (of_decide_eq_true zq3_1) q5 hroom5
   have hr5 := Kd.C_take (m := ((ji2) : Int).toNat) hC5 (by omega)
   have hy5 : y233.length = ((ji2) : Int).toNat := (by rw [Ny233.out, List.length_take]; omega)
   rw [← Ny233.out] at hr5
   rw [← hy5] at hcut5
   have HR236 := Aside0.mk hr5
   have HC236 := Aside0.mk (show y233.length ≤ c0 from by omega)
   clear hr5 hC5 hroom5 hi05 hsz5
   have KY5 := Aside0.mk hy5
   clear hy5
   replace q5 := eq_true q5
   go_enter Try.func3, Try.ntmps3
   go_wp2
   go_loopg [3] k (fun kq v3 w' => ∃ (x3_1 : Int), v3 = .int .i64 x3_1 ∧ Aside0 (cenotaphlaw04_KnowRights.l0 kq y233 x3_1 = some r) ∧ Aside0 (kq ≤ k) ∧ Aside0 (Below w.heap.size w w'))
   case atStart => exact ⟨(0), (by first | rfl | (simp; done) | (simp [*]; done)), H', ⟨Nat.le_refl _⟩, ⟨by repeat (first | (with_reducible first | exact HB.out | apply below_alloc | apply pw_below_drewN | apply below_drew1) | exact HB.out)⟩⟩
   case round =>
    clear H'
    try clear p2
    try clear c3
    try clear c3b0
    try clear c3b1
    try clear c4
    try clear c4b0
    try clear c4b1
    try clear q5
    try clear q5
    obtain ⟨x3_1, rfl, HA, HK1, HB⟩ := hrel
    cases gk with
    | zero => exact absurd HA.out (by simp [cenotaphlaw04_KnowRights.l0])
    | succ k1 =>
     have H := HA.out
     clear HA
     simp only [cenotaphlaw04_KnowRights.l0] at H
     by_cases c6 : x3_1 < (y233.length : Int)
     ·rw [if_pos c6] at H
      have c6b0 : decide (x3_1 < (y233.length : Int)) = true := decide_eq_true c6
      clear c6
      by_cases c7 : 0 ≤ x3_1
      ·rw [if_pos c7] at H
       have c7b0 : decide (0 ≤ x3_1) = true := decide_eq_true c7
       clear c7
       by_cases c8 : (((rd_T27 y233 x3_1).f1.f1).length : Int) > 500
       ·rw [if_pos c8] at H
        have c8b0 : decide (500 < (((rd_T27 y233 x3_1).f1.f1).length : Int)) = true := decide_eq_true c8
        have c8b1 : decide (500 < ((rd_T27 y233 x3_1).f1.f1).length) = true := decide_eq_true (by omega)
        clear c8
        replace H := Option.bind_eq_some_iff.mp H
        obtain ⟨t238, A90, H⟩ := H
        have A9 := Aside0.mk A90
        clear A90
        obtain rfl := Option.some.inj H
        have p237 : 0 ≤ (x3_1 : Int) := of_decide_eq_true zq3_1
        have q237 : x3_1 < (y233.length : Int) := of_decide_eq_true zq3_1
        obtain ⟨ad237, A237_2, c237_2, e237, hx237_0, hx237_1, hx237_2, hl237_2, hi237_2⟩ := at_T27 HR236.out x3_1 p237 q237
        cases e237
        replace hx237_0 := (HB.out.cell (World.block_lt_of_cell? w _ hx237_0)).trans hx237_0
        replace hx237_1 := (HB.out.cell (World.block_lt_of_cell? w _ hx237_1)).trans hx237_1
        replace hx237_2 := (HB.out.cell (World.block_lt_of_cell? w _ hx237_2)).trans hx237_2
        have HR237_2 := Aside0.mk hi237_2
        have HC237_2 := Aside0.mk hl237_2
        clear hi237_2 hl237_2
        replace p237 := eq_true p237
        replace q237 := eq_true q237
        go_wp2_with (first | ((with_reducible refine gate_callee (f := 7) rfl ?_); refine goesL_ (some 23) rfl rfl Try.func7 (by kernel_rfl) rfl #[] rfl (by (try simp only [List.map_toArray, List.map_cons, List.map_nil]); first | done | rfl | (simp only [List.length_drop, List.length_take]; rfl)) ?_; (with_reducible refine (cenotaphlaw04_told.calls k1  t238 _ A9.out).mono ?_); rintro e w10 ⟨rfl, hb⟩; refine ⟨_, rfl, ?_⟩; replace HB := Aside0.mk (below_step zq3_0 hb); (try clear hb); (try clear hb2); (try clear hk); (try clear hi)))
        go_ret
        exact ⟨by first | rfl | (simp [errW_none, errW_some] <;> rfl) | (simp only [← hji2]; first | rfl | (simp [errW_none, errW_some] <;> rfl)) | (simp [*, errW_none, errW_some] <;> rfl), by repeat (first | (with_reducible first | exact HB.out | apply below_alloc | apply pw_below_drewN | apply below_drew1) | exact HB.out)⟩
       ·rw [if_neg c8] at H
        have c8b0 : decide (500 < (((rd_T27 y233 x3_1).f1.f1).length : Int)) = false := decide_eq_false c8
        have c8b1 : decide (500 < ((rd_T27 y233 x3_1).f1.f1).length) = false := decide_eq_false (by omega)
        clear c8
        have H' := Aside0.mk H
        clear H
        have p237 : 0 ≤ (x3_1 : Int) := of_decide_eq_true zq3_1
        have q237 : x3_1 < (y233.length : Int) := of_decide_eq_true zq3_1
        obtain ⟨ad237, A237_2, c237_2, e237, hx237_0, hx237_1, hx237_2, hl237_2, hi237_2⟩ := at_T27 HR236.out x3_1 p237 q237
        cases e237
        replace hx237_0 := (HB.out.cell (World.block_lt_of_cell? w _ hx237_0)).trans hx237_0
        replace hx237_1 := (HB.out.cell (World.block_lt_of_cell? w _ hx237_1)).trans hx237_1
        replace hx237_2 := (HB.out.cell (World.block_lt_of_cell? w _ hx237_2)).trans hx237_2
        have HR237_2 := Aside0.mk hi237_2
        have HC237_2 := Aside0.mk hl237_2
        clear hi237_2 hl237_2
        replace p237 := eq_true p237
        replace q237 := eq_true q237
        go_wp2
        go_roundg k1
        case measure => have := HK1.out; omega
        case rel => exact ⟨(wrap64 (x3_1 + 1)), (by first | rfl | (simp; done) | (simp [*]; done)), H', ⟨by have := HK1.out; omega⟩, ⟨by repeat (first | (with_reducible first | exact HB.out | apply below_alloc | apply pw_below_drewN | apply below_drew1) | exact HB.out)⟩⟩
      ·rw [if_neg c7] at H
       exact absurd H (by simp)
     ·rw [if_neg c6] at H
      have c6b0 : decide (x3_1 < (y233.length : Int)) = false := decide_eq_false c6
      clear c6
      replace H := Option.bind_eq_some_iff.mp H
      obtain ⟨t239, A110, H⟩ := H
      have A11 := Aside0.mk A110
      clear A110
      by_cases c12 : t239 = true
      ·subst c12
       have H1 : ((cenotaphlaw04_To.f k1 y233).bind fun t240 => ((know_Right.f k1 t240).bind fun t243 => ((cenotaphref04_Right.f k1 y233).bind fun t244 => (some (t243 == t244))))) = some r := by rw [if_pos rfl] at H; exact H
       clear H
       have H := H1
       clear H1
       replace H := Option.bind_eq_some_iff.mp H
       obtain ⟨t240, A130, H⟩ := H
       have A13 := Aside0.mk A130
       clear A130
       replace H := Option.bind_eq_some_iff.mp H
       obtain ⟨t243, A140, H⟩ := H
       have A14 := Aside0.mk A140
       clear A140
       replace H := Option.bind_eq_some_iff.mp H
       obtain ⟨t244, A150, H⟩ := H
       have A15 := Aside0.mk A150
       clear A150
       obtain rfl := Option.some.inj H
       go_wp2_with (first | ((with_reducible refine gate_callee (f := 7) rfl ?_); refine goesL_ (some 24) rfl rfl Try.func7 (by kernel_rfl) rfl #[] rfl (by (try simp only [List.map_toArray, List.map_cons, List.map_nil]); first | done | rfl | (simp only [List.length_drop, List.length_take]; rfl)) ?_; (with_reducible refine (cenotaphlaw04_told.calls k1  true _ A11.out).mono ?_); rintro e w16 ⟨rfl, hb⟩; refine ⟨_, rfl, ?_⟩; replace HB := Aside0.mk (below_step zq3_0 hb); (try clear hb); (try clear hb2); (try clear hk); (try clear hi)) | (go_at_call 9; (with_reducible refine (cenotaphlaw04_To.calls k1 _ _ y233 t240 _ ?side1 ?side2 A13.out).mono ?_); (case side1 => repeat (first | exact (Kd.C_below HR236.out HB.out) | (with_reducible refine Kd.C_alloc ?_ _) | (with_reducible refine Kd.C_drewN ?_ _) | (with_reducible refine Kd.C_drew ?_))); (case side2 => exact HC236.out); rintro e w17 ⟨v241, rfl, ho0, hb⟩; have HO242 := Aside0.mk (Kd.S_lower ho0 (below_size zq3_0)); replace HB := Aside0.mk (below_step zq3_0 hb); (try clear hb); (try clear hb2); (try clear hk); (try clear hi); (try clear ho0); obtain ⟨Ao18, co18, eo18⟩ := Kd.S_slice HO242.out; subst eo18) | (go_at_call 8; (with_reducible refine (know_Right.calls k1 _ _ t240 t243 _ ?side1 ?side2 A14.out).mono ?_); (case side1 => repeat (first | exact (Kd.S_reads' HO242.out).2.2 | (with_reducible refine Kd.C_alloc ?_ _) | (with_reducible refine Kd.C_drewN ?_ _) | (with_reducible refine Kd.C_drew ?_))); (case side2 => exact (Kd.S_reads' HO242.out).2.1); rintro e w19 ⟨rfl, hb⟩; replace HO242 := Aside0.mk (Kd.S_below (by (with_reducible repeat (first | apply Kd.S_alloc | apply Kd.S_drewN | apply Kd.S_drew)); exact HO242.out) hb); replace HB := Aside0.mk (below_step zq3_0 hb); (try clear hb); (try clear hb2); (try clear hk); (try clear hi)) | (go_at_call 10; (with_reducible refine (cenotaphref04_Right.calls k1 _ _ y233 t244 _ ?side1 ?side2 A15.out).mono ?_); (case side1 => repeat (first | exact (Kd.C_below HR236.out HB.out) | (with_reducible refine Kd.C_alloc ?_ _) | (with_reducible refine Kd.C_drewN ?_ _) | (with_reducible refine Kd.C_drew ?_))); (case side2 => exact HC236.out); rintro e w20 ⟨rfl, hb⟩; replace HO242 := Aside0.mk (Kd.S_below (by (with_reducible repeat (first | apply Kd.S_alloc | apply Kd.S_drewN | apply Kd.S_drew)); exact HO242.out) hb); replace HB := Aside0.mk (below_step zq3_0 hb); (try clear hb); (try clear hb2); (try clear hk); (try clear hi)))
       go_ret
       exact ⟨by first | rfl | (simp [errW_none, errW_some] <;> rfl) | (simp only [← hji2]; first | rfl | (simp [errW_none, errW_some] <;> rfl)) | (simp [*, errW_none, errW_some] <;> rfl), by repeat (first | (with_reducible first | exact HB.out | apply below_alloc | apply pw_below_drewN | apply below_drew1) | exact HB.out)⟩
      ·replace c12 := Bool.eq_false_iff.mpr c12
       subst c12
       have H1 : (none) = some r := by rw [if_neg (show ¬ (false = true) by decide)] at H; exact H
       clear H
       have H := H1
       clear H1
       exact absurd H (by simp)
  ·rw [if_neg c4] at H
   exact absurd H (by simp)
 ·rw [if_neg c3] at H
  exact absurd H (by simp)

end Go.Proofs.Ytkfehkaiifjkmaa.P
