-- Written by a program of this session (wip/pp.py over the kit's printer, with our own texts put in).
import Derived.Test.YtejoofeigeoboaaP0
namespace Go.Proofs.Ytejoofeigeoboaa.P
open Go.RowKit Go.Proofs.YtejoofeigeoboaaW.PrintWords Go.Proofs.YtejoofeigeoboaaW.PrintLast Go.Proofs.YtejoofeigeoboaaW.PrintMore
attribute [local go_sem] max2_int min2_int max_two min_two max_three min_three max_four min_four   -- for this text's walks alone
set_option linter.unusedVariables false
set_option linter.unusedSimpArgs false

/-! ### span_Right: function 14 -/
theorem zq14_0 {p_ : Prop} (h_ : p_ := by repeat (first | (with_reducible first | exact HB.out | apply below_alloc | apply pw_below_drewN | apply below_drew1) | exact HB.out)) : p_ := h_
theorem zq14_1 {p_ : Prop} (h_ : p_ := by first | (with_reducible assumption) | assumption) : p_ := h_
theorem zq14_2 {p_ : Prop} (h_ : p_ := by first | rfl | (simp; done) | (simp [*]; done)) : p_ := h_
mutual
def span_Right.j0 : Nat → Bool → Int → List Int → Option (Bool)
 | 0, _, _, _ => none
 | k + 1, x19, x169000, x169001 => if x19 = true then (some false) else (span_Right.l0 k (wrap64 (x169000 + 1)) x169001 (x169001.length : Int) 0)
def span_Right.l0 : Nat → Int → List Int → Int → Int → Option (Bool)
 | 0, _, _, _, _ => none
 | k + 1, x3, x24, x25, x26 => if x26 < x25 then (if 0 ≤ x26 then (if x26 < (x24.length : Int) then (if (rd x24 x26) ≤ x3 then (some false) else (if (rd x24 x26) > 1048576 then (some false) else (span_Right.l0 k (rd x24 x26) x24 x25 (wrap64 (x26 + 1))))) else (none)) else (none)) else (some true)
end
def span_Right.f (k : Nat) (a0_0 : Int) (l0_1 : List Int) : Option (Bool) := if a0_0 < 0 then (span_Right.j0 k true a0_0 l0_1) else (if a0_0 > 1048576 then (span_Right.j0 k true a0_0 l0_1) else (span_Right.j0 k (decide ((l0_1.length : Int) > 4096)) a0_0 l0_1))
theorem span_Right.mono_l : ∀ k, (∀ y0 y1 y2, LeO (span_Right.j0 k y0 y1 y2) (span_Right.j0 (k + 1) y0 y1 y2)) ∧ (∀ y0 y1 y2 y3, LeO (span_Right.l0 k y0 y1 y2 y3) (span_Right.l0 (k + 1) y0 y1 y2 y3))
 | 0 => ⟨fun _ _ _ r h => by simp [span_Right.j0] at h, fun _ _ _ _ r h => by simp [span_Right.l0] at h⟩
 | k + 1 => by
  obtain ⟨ih0, ih1⟩ := span_Right.mono_l k
  refine ⟨?_, ?_⟩
  ·intro y0 y1 y2
   unfold span_Right.j0
   repeat' first
   | (with_reducible exact ih0 _ _ _)
   | (with_reducible exact ih1 _ _ _ _)
   | (with_reducible exact LeO.refl _)
   | (with_reducible exact LeO.none _)
   | (with_reducible refine LeO.ite ?_ ?_)
   | (with_reducible refine LeO.bind ?_ (fun _ => ?_))
   | exact ih0 _ _ _
   | exact ih1 _ _ _ _
   | exact LeO.none _
   | refine LeO.ite ?_ ?_
   | refine LeO.bind ?_ (fun _ => ?_)
  ·intro y0 y1 y2 y3
   unfold span_Right.l0
   repeat' first
   | (with_reducible exact ih0 _ _ _)
   | (with_reducible exact ih1 _ _ _ _)
   | (with_reducible exact LeO.refl _)
   | (with_reducible exact LeO.none _)
   | (with_reducible refine LeO.ite ?_ ?_)
   | (with_reducible refine LeO.bind ?_ (fun _ => ?_))
   | exact ih0 _ _ _
   | exact ih1 _ _ _ _
   | exact LeO.none _
   | refine LeO.ite ?_ ?_
   | refine LeO.bind ?_ (fun _ => ?_)
theorem span_Right.mono : ∀ a0 a1 k, LeO (span_Right.f k a0 a1) (span_Right.f (k + 1) a0 a1) := by
 intro a0 a1 k
 obtain ⟨ih0, ih1⟩ := span_Right.mono_l k
 unfold span_Right.f
 repeat' first
   | (with_reducible exact ih0 _ _ _)
   | (with_reducible exact ih1 _ _ _ _)
   | (with_reducible exact LeO.refl _)
   | (with_reducible exact LeO.none _)
   | (with_reducible refine LeO.ite ?_ ?_)
   | (with_reducible refine LeO.bind ?_ (fun _ => ?_))
   | exact ih0 _ _ _
   | exact ih1 _ _ _ _
   | exact LeO.none _
   | refine LeO.ite ?_ ?_
   | refine LeO.bind ?_ (fun _ => ?_)
set_option maxHeartbeats 8000000 in
set_option maxRecDepth 100000 in
theorem span_Right.calls (k : Nat) (a0_0 : Int) (A0_1 : Option Addr) (c0_1 : Nat) (l0_1 : List Int) (r : Bool) (w : World) (hr0_1 : Kd.C (Kd.int .i64) w A0_1 l0_1.length l0_1) (hc0_1 : l0_1.length ≤ c0_1) (h : span_Right.f k a0_0 l0_1 = some r) :
  Calls Try.prog 14 #[.agg #[.int .i64 a0_0, .slice A0_1 l0_1.length c0_1]] w fun e w' => e = .returned (.bool r) ∧ Below w.heap.size w w' := by
 have hu24 := Try.underlying24
 have HR0_1 := Aside0.mk hr0_1
 have HC0_1 := Aside0.mk hc0_1
 clear hr0_1 hc0_1
 have HB := Aside0.mk (Below.refl w.heap.size w)
 have H : (if a0_0 < 0 then (span_Right.j0 k true a0_0 l0_1) else (if a0_0 > 1048576 then (span_Right.j0 k true a0_0 l0_1) else (span_Right.j0 k (decide ((l0_1.length : Int) > 4096)) a0_0 l0_1))) = some r := h
 clear h
 have HC2 := Aside0.mk H
 clear H
 go_enter Try.func14, Try.ntmps14
 go_upto_region 1 with (first | ((with_reducible refine gate_dst (N := 1) rfl ?_); (try (refine gate_guard (by rfl) ?_; dsimp only)); refine box_event ?hg (N := 1) ?hd (cs := #[.int .i64 a0_0, .slice A0_1 l0_1.length c0_1]) (t := 24) ?hr ?_; (case hd => rfl); (case hg => rfl); (case hr => first | (go_simp; done) | (go_simp; rfl)); intro gb168 hg w3 hbox hb; have n0_ := Aside0.mk (below_step zq14_0 hb); have n1_ := Aside0.mk (hbox); have n2_ := Aside0.mk (((by rw [hg]; exact (below_size zq14_0)) : w.heap.size ≤ gb168)); have n3_ := Aside0.mk (((by rw [hg]; exact (below_size zq14_0)) : w.heap.size ≤ gb168)); clear HB; have HB := n0_; have BK168 := n1_; have GW168 := n2_; have GE168 := n3_; clear n0_ n1_ n2_ n3_; clear hb hbox hg))
 (try simp only [Act.put, List.setIfInBounds_toArray, List.set_cons_zero, List.set_cons_succ])
 go_cut [19] (fun v19 wc => ∃ (kq : Nat) (x19_1 : Bool), v19 = .bool x19_1 ∧ Aside0 (span_Right.j0 kq x19_1 a0_0 l0_1 = some r) ∧ Aside0 (kq ≤ k) ∧ Aside0 (wc.heap[gb168]? = some (.cells #[.int .i64 a0_0, (.slice A0_1 l0_1.length c0_1)] 24 (0, 0))) ∧ Aside0 (Below w.heap.size w wc))
 case first =>
  have H := HC2.out
  clear HC2
  by_cases c4 : a0_0 < 0
  ·rw [if_pos c4] at H
   have c4b0 : decide (a0_0 < 0) = true := decide_eq_true c4
   clear c4
   (first | rw [c4b0] | (simp only [i64_w, i32_w]; rw [c4b0]) | skip)
   have H' := Aside0.mk H
   clear H
   have hcz5_0 : w3.cell? ⟨gb168, 0, none⟩ = some (.int .i64 a0_0) := (blk_cell BK168.out 0).trans rfl
   have hcz5_1 : w3.cell? ⟨gb168, 1, none⟩ = some (.slice A0_1 l0_1.length c0_1) := (blk_cell BK168.out 1).trans rfl
   have hfz5_0 := blk_frozen BK168.out 0
   have hfz5_1 := blk_frozen BK168.out 1
   go_wp2
   go_meet
   case rel => exact ⟨_, (true), zq14_2, H', ⟨by first | omega | exact Nat.le_refl _⟩, ⟨by (with_reducible repeat (first | refine blk_drewN ?_ _ | refine blk_drew ?_ | refine blk_alloc ?_ _)); exact BK168.out⟩, ⟨by repeat (first | (with_reducible first | exact HB.out | apply below_alloc | apply pw_below_drewN | apply below_drew1 | refine below_set ?_ GE168.out) | exact HB.out)⟩⟩
  ·rw [if_neg c4] at H
   have c4b0 : decide (a0_0 < 0) = false := decide_eq_false c4
   clear c4
   (first | rw [c4b0] | (simp only [i64_w, i32_w]; rw [c4b0]) | skip)
   by_cases c6 : a0_0 > 1048576
   ·rw [if_pos c6] at H
    have c6b0 : decide (1048576 < a0_0) = true := decide_eq_true c6
    clear c6
    have H' := Aside0.mk H
    clear H
    have hcz7_0 : w3.cell? ⟨gb168, 0, none⟩ = some (.int .i64 a0_0) := (blk_cell BK168.out 0).trans rfl
    have hcz7_1 : w3.cell? ⟨gb168, 1, none⟩ = some (.slice A0_1 l0_1.length c0_1) := (blk_cell BK168.out 1).trans rfl
    have hfz7_0 := blk_frozen BK168.out 0
    have hfz7_1 := blk_frozen BK168.out 1
    go_wp2
    go_meet
    case rel => exact ⟨_, (true), zq14_2, H', ⟨by first | omega | exact Nat.le_refl _⟩, ⟨by (with_reducible repeat (first | refine blk_drewN ?_ _ | refine blk_drew ?_ | refine blk_alloc ?_ _)); exact BK168.out⟩, ⟨by repeat (first | (with_reducible first | exact HB.out | apply below_alloc | apply pw_below_drewN | apply below_drew1 | refine below_set ?_ GE168.out) | exact HB.out)⟩⟩
   ·rw [if_neg c6] at H
    have c6b0 : decide (1048576 < a0_0) = false := decide_eq_false c6
    clear c6
    have H' := Aside0.mk H
    clear H
    have hcz8_0 : w3.cell? ⟨gb168, 0, none⟩ = some (.int .i64 a0_0) := (blk_cell BK168.out 0).trans rfl
    have hcz8_1 : w3.cell? ⟨gb168, 1, none⟩ = some (.slice A0_1 l0_1.length c0_1) := (blk_cell BK168.out 1).trans rfl
    have hfz8_0 := blk_frozen BK168.out 0
    have hfz8_1 := blk_frozen BK168.out 1
    go_wp2
    go_meet
    case rel => exact ⟨_, (decide ((l0_1.length : Int) > 4096)), zq14_2, H', ⟨by first | omega | exact Nat.le_refl _⟩, ⟨by (with_reducible repeat (first | refine blk_drewN ?_ _ | refine blk_drew ?_ | refine blk_alloc ?_ _)); exact BK168.out⟩, ⟨by repeat (first | (with_reducible first | exact HB.out | apply below_alloc | apply pw_below_drewN | apply below_drew1 | refine below_set ?_ GE168.out) | exact HB.out)⟩⟩
 case rest =>
  clear HC2
  try clear c1
  try clear p2
  try clear c4
  try clear c4b0
  try clear c6
  try clear c6b0
  try clear hcz5_0
  try clear hcz5_1
  try clear hcz7_0
  try clear hcz7_1
  try clear hcz8_0
  try clear hcz8_1
  try clear hfz5_0
  try clear hfz5_1
  try clear hfz7_0
  try clear hfz7_1
  try clear hfz8_0
  try clear hfz8_1
  obtain ⟨kq, x19_1, rfl, HA, HJ1, BK168, HB⟩ := hcut
  cases kq with
  | zero => exact absurd HA.out (by simp [span_Right.j0])
  | succ kj1 =>
   have H := HA.out
   clear HA
   simp only [span_Right.j0] at H
   by_cases c9 : x19_1 = true
   ·subst c9
    have H1 : (some false) = some r := by rw [if_pos rfl] at H; exact H
    clear H
    have H := H1
    clear H1
    obtain rfl := Option.some.inj H
    go_wp2
    go_ret
    exact ⟨by first | rfl | (simp [errW_none, errW_some] <;> rfl) | (simp [*, errW_none, errW_some] <;> rfl), by repeat (first | (with_reducible first | exact HB.out | apply below_alloc | apply pw_below_drewN | apply below_drew1 | refine below_set ?_ GE168.out) | exact HB.out)⟩
   ·replace c9 := Bool.eq_false_iff.mpr c9
    subst c9
    have H1 : (span_Right.l0 kj1 (wrap64 (a0_0 + 1)) l0_1 (l0_1.length : Int) 0) = some r := by rw [if_neg (show ¬ (false = true) by decide)] at H; exact H
    clear H
    have H := H1
    clear H1
    have H' := Aside0.mk H
    clear H
    have hcz10_0 : wc.cell? ⟨gb168, 0, none⟩ = some (.int .i64 a0_0) := (blk_cell BK168.out 0).trans rfl
    have hcz10_1 : wc.cell? ⟨gb168, 1, none⟩ = some (.slice A0_1 l0_1.length c0_1) := (blk_cell BK168.out 1).trans rfl
    have hfz10_0 := blk_frozen BK168.out 0
    have hfz10_1 := blk_frozen BK168.out 1
    go_wp2
    go_loopg [3, 26] kj1 (fun kq v3 v26 w' => ∃ (x3_2 : Int) (x26_2 : Int), v3 = .int .i64 x3_2 ∧ v26 = .int .i64 x26_2 ∧ Aside0 (span_Right.l0 kq x3_2 l0_1 (l0_1.length : Int) x26_2 = some r) ∧ Aside0 (kq ≤ kj1) ∧ Aside0 (w'.heap[gb168]? = some (.cells #[.int .i64 a0_0, (.slice A0_1 l0_1.length c0_1)] 24 (0, 0))) ∧ Aside0 (Below w.heap.size w w'))
    case atStart => exact ⟨(wrap64 (a0_0 + 1)), (0), zq14_2, zq14_2, H', ⟨Nat.le_refl _⟩, ⟨by (with_reducible repeat (first | refine blk_drewN ?_ _ | refine blk_drew ?_ | refine blk_alloc ?_ _)); exact BK168.out⟩, ⟨by repeat (first | (with_reducible first | exact HB.out | apply below_alloc | apply pw_below_drewN | apply below_drew1 | refine below_set ?_ GE168.out) | exact HB.out)⟩⟩
    case round =>
     clear H'
     try clear c1
     try clear p2
     try clear c4
     try clear c4b0
     try clear c6
     try clear c6b0
     try clear p6
     try clear c9
     try clear hcz10_0
     try clear hcz10_1
     try clear hcz5_0
     try clear hcz5_1
     try clear hcz7_0
     try clear hcz7_1
     try clear hcz8_0
     try clear hcz8_1
     try clear hfz10_0
     try clear hfz10_1
     try clear hfz5_0
     try clear hfz5_1
     try clear hfz7_0
     try clear hfz7_1
     try clear hfz8_0
     try clear hfz8_1
     try clear p2
     obtain ⟨x3_2, x26_2, rfl, rfl, HA, HK2, BK168, HB⟩ := hrel
     cases gk with
     | zero => exact absurd HA.out (by simp [span_Right.l0])
     | succ k2 =>
      have H := HA.out
      clear HA
      simp only [span_Right.l0] at H
      by_cases c11 : x26_2 < (l0_1.length : Int)
      ·rw [if_pos c11] at H
       have c11b0 : decide (x26_2 < (l0_1.length : Int)) = true := decide_eq_true c11
       clear c11
       by_cases c12 : 0 ≤ x26_2
       ·rw [if_pos c12] at H
        have c12b0 : decide (0 ≤ x26_2) = true := decide_eq_true c12
        clear c12
        by_cases c13 : x26_2 < (l0_1.length : Int)
        ·rw [if_pos c13] at H
         have c13b0 : decide (x26_2 < (l0_1.length : Int)) = true := decide_eq_true c13
         clear c13
         by_cases c14 : (rd l0_1 x26_2) ≤ x3_2
         ·rw [if_pos c14] at H
          have c14b0 : decide ((rd l0_1 x26_2) ≤ x3_2) = true := decide_eq_true c14
          clear c14
          obtain rfl := Option.some.inj H
          have p169 : 0 ≤ (x26_2 : Int) := of_decide_eq_true zq14_1
          have q169 : x26_2 < (l0_1.length : Int) := of_decide_eq_true zq14_1
          obtain ⟨ad169, e169, hx169_0⟩ := Kd.at_int HR0_1.out x26_2 p169 q169
          cases e169
          replace hx169_0 := (HB.out.cell (World.block_lt_of_cell? w _ hx169_0)).trans hx169_0
          replace p169 := eq_true p169
          replace q169 := eq_true q169
          go_wp2
          go_ret
          exact ⟨by first | rfl | (simp [errW_none, errW_some] <;> rfl) | (simp [*, errW_none, errW_some] <;> rfl), by repeat (first | (with_reducible first | exact HB.out | apply below_alloc | apply pw_below_drewN | apply below_drew1 | refine below_set ?_ GE168.out) | exact HB.out)⟩
         ·rw [if_neg c14] at H
          have c14b0 : decide ((rd l0_1 x26_2) ≤ x3_2) = false := decide_eq_false c14
          clear c14
          by_cases c15 : (rd l0_1 x26_2) > 1048576
          ·rw [if_pos c15] at H
           have c15b0 : decide (1048576 < (rd l0_1 x26_2)) = true := decide_eq_true c15
           clear c15
           obtain rfl := Option.some.inj H
           have p169 : 0 ≤ (x26_2 : Int) := of_decide_eq_true zq14_1
           have q169 : x26_2 < (l0_1.length : Int) := of_decide_eq_true zq14_1
           obtain ⟨ad169, e169, hx169_0⟩ := Kd.at_int HR0_1.out x26_2 p169 q169
           cases e169
           replace hx169_0 := (HB.out.cell (World.block_lt_of_cell? w _ hx169_0)).trans hx169_0
           replace p169 := eq_true p169
           replace q169 := eq_true q169
           go_wp2
           go_ret
           exact ⟨by first | rfl | (simp [errW_none, errW_some] <;> rfl) | (simp [*, errW_none, errW_some] <;> rfl), by repeat (first | (with_reducible first | exact HB.out | apply below_alloc | apply pw_below_drewN | apply below_drew1 | refine below_set ?_ GE168.out) | exact HB.out)⟩
          ·rw [if_neg c15] at H
           have c15b0 : decide (1048576 < (rd l0_1 x26_2)) = false := decide_eq_false c15
           clear c15
           have H' := Aside0.mk H
           clear H
           have p169 : 0 ≤ (x26_2 : Int) := of_decide_eq_true zq14_1
           have q169 : x26_2 < (l0_1.length : Int) := of_decide_eq_true zq14_1
           obtain ⟨ad169, e169, hx169_0⟩ := Kd.at_int HR0_1.out x26_2 p169 q169
           cases e169
           replace hx169_0 := (HB.out.cell (World.block_lt_of_cell? w _ hx169_0)).trans hx169_0
           replace p169 := eq_true p169
           replace q169 := eq_true q169
           go_wp2
           go_roundg k2
           case measure => have := HJ1.out; have := HK2.out; omega
           case rel => exact ⟨(rd l0_1 x26_2), (wrap64 (x26_2 + 1)), zq14_2, zq14_2, H', ⟨by have := HJ1.out; have := HK2.out; omega⟩, ⟨by (with_reducible repeat (first | refine blk_drewN ?_ _ | refine blk_drew ?_ | refine blk_alloc ?_ _)); exact BK168.out⟩, ⟨by repeat (first | (with_reducible first | exact HB.out | apply below_alloc | apply pw_below_drewN | apply below_drew1 | refine below_set ?_ GE168.out) | exact HB.out)⟩⟩
        ·rw [if_neg c13] at H
         exact absurd H (by simp)
       ·rw [if_neg c12] at H
        exact absurd H (by simp)
      ·rw [if_neg c11] at H
       have c11b0 : decide (x26_2 < (l0_1.length : Int)) = false := decide_eq_false c11
       clear c11
       obtain rfl := Option.some.inj H
       go_wp2
       go_ret
       exact ⟨by first | rfl | (simp [errW_none, errW_some] <;> rfl) | (simp [*, errW_none, errW_some] <;> rfl), by repeat (first | (with_reducible first | exact HB.out | apply below_alloc | apply pw_below_drewN | apply below_drew1 | refine below_set ?_ GE168.out) | exact HB.out)⟩

end Go.Proofs.Ytejoofeigeoboaa.P
