import Derived.Test.YtkfehkaiifjkmaaGreatP0
import Derived.Test.YtkfehkaiifjkmaaGreatP2
namespace Go.Proofs.YtkfehkaiifjkmaaGreat.P
open Go.RowKit Go.Proofs.YtkfehkaiifjkmaaGreatW.PrintWords Go.Proofs.YtkfehkaiifjkmaaGreatW.PrintLast Go.Proofs.YtkfehkaiifjkmaaGreatW.PrintMore
set_option maxHeartbeats 8000000
set_option maxRecDepth 100000
attribute [local go_sem] max2_int min2_int max_two min_two max_three min_three max_four min_four
set_option linter.unusedVariables false
set_option linter.unusedSimpArgs false
theorem zq61_0 {p_ : Prop} (h_ : p_ := by repeat (first | (with_reducible first | exact HB.out | apply bA | apply pB | apply bW | refine below_set ?_ GE109.out | refine below_set ?_ GE110.out) | exact HB.out)) : p_ := h_
theorem zq61_1 {p_ : Prop} (h_ : p_ := by repeat (first | (with_reducible first | exact HB.out | apply bA | apply pB | apply bW | refine below_set ?_ GE109.out) | exact HB.out)) : p_ := h_
theorem zq61_2 {p_ : Prop} (h_ : p_ := by repeat (first | (with_reducible first | exact HB.out | apply bA | apply pB | apply bW) | exact HB.out)) : p_ := h_
theorem zq61_3 {p_ : Prop} (h_ : p_ := by (with_reducible repeat (first | refine blk_drewN ?_ _ | refine blk_drew ?_ | refine blk_alloc ?_ _)); exact BK109.out) : p_ := h_
theorem zq61_4 {p_ : Prop} (h_ : p_ := by (with_reducible repeat (first | refine blk_drewN ?_ _ | refine blk_drew ?_ | refine blk_alloc ?_ _)); exact BK110.out) : p_ := h_
theorem zq61_5 {p_ : Prop} (h_ : p_ := by (with_reducible repeat (first | apply Kd.Q_alloc | apply Kd.Q_drewN | apply Kd.Q_drew)); exact HO_5.out) : p_ := h_
theorem zq61_6 {p_ : Prop} (h_ : p_ := by first | (with_reducible assumption) | assumption) : p_ := h_
theorem zq61_7 {p_ : Prop} (h_ : p_ := by first | rfl | (simp; done) | (simp [*]; done)) : p_ := h_
mutual
def cenotaphref02_Add.j0 : Nat → Int → Bool → Int → List Int → Option (Int × List Int)
 | 0, _, _, _, _ => none
 | k + 1, x1, x19, x110000, x110001 => if x19 = true then ((some (([] : List Int) : List Int)).bind fun y112 => (if y112.length + x110001.length < 17592186044416 then (some (x110000, (y112 ++ x110001))) else (none))) else (cenotaphref02_Add.l0 k x1 ([] : List Int) false 0 x110000 x110001)
def cenotaphref02_Add.l0 : Nat → Int → List Int → Bool → Int → Int → List Int → Option (Int × List Int)
 | 0, _, _, _, _, _, _ => none
 | k + 1, x1, x5, x6, x7, x110000, x110001 => if x7 < (x110001.length : Int) then (if x6 = true then (if 0 ≤ x7 then (if x5.length < 17592186044416 then (cenotaphref02_Add.l0 k x1 (x5 ++ [rd x110001 x7]) x6 (wrap64 (x7 + 1)) x110000 x110001) else (none)) else (none)) else (if 0 ≤ x7 then (if (rd x110001 x7) > x1 then (if x5.length < 17592186044416 then ((some (x5 ++ [x1] : List Int)).bind fun y123 => (if y123.length < 17592186044416 then (cenotaphref02_Add.l0 k x1 (y123 ++ [rd x110001 x7]) true (wrap64 (x7 + 1)) x110000 x110001) else (none))) else (none)) else (if x5.length < 17592186044416 then (cenotaphref02_Add.l0 k x1 (x5 ++ [rd x110001 x7]) x6 (wrap64 (x7 + 1)) x110000 x110001) else (none))) else (none))) else (if x6 = true then (cenotaphref02_Add.j2 k x5 x110000 x110001) else (if x5.length < 17592186044416 then (cenotaphref02_Add.j2 k (x5 ++ [x1]) x110000 x110001) else (none)))
def cenotaphref02_Add.j2 : Nat → List Int → Int → List Int → Option (Int × List Int)
 | 0, _, _, _ => none
 | k + 1, x5, x110000, x110001 => cenotaphref02_Add.l1 k x5 x110000
def cenotaphref02_Add.l1 : Nat → List Int → Int → Option (Int × List Int)
 | 0, _, _ => none
 | k + 1, x5, x8 => if (x5.length : Int) > 0 then (if 0 < (x5.length : Int) then (if (rd x5 0) = (wrap64 (x8 + 1)) then (if 1 ≤ (x5.length : Int) then (cenotaphref02_Add.l1 k (x5.drop (1 : Int).toNat) (wrap64 (x8 + 1))) else (none)) else ((some (([] : List Int) : List Int)).bind fun y141 => (if y141.length + x5.length < 17592186044416 then (some (x8, (y141 ++ x5))) else (none)))) else (none)) else ((some (([] : List Int) : List Int)).bind fun y147 => (if y147.length + x5.length < 17592186044416 then (some (x8, (y147 ++ x5))) else (none)))
end
def cenotaphref02_Add.f (k : Nat) (a0_0 : Int) (l0_1 : List Int) (a1 : Int) : Option (Int × List Int) := if a1 < 1 then (cenotaphref02_Add.j0 k a1 true a0_0 l0_1) else (if a1 > 1048576 then (cenotaphref02_Add.j0 k a1 true a0_0 l0_1) else ((cenotaphref02_Has.f k a0_0 l0_1 a1).bind fun t111 => (cenotaphref02_Add.j0 k a1 t111 a0_0 l0_1)))
theorem cenotaphref02_Add.mono_l : ∀ k, (∀ y0 y1 y2 y3, LeO (cenotaphref02_Add.j0 k y0 y1 y2 y3) (cenotaphref02_Add.j0 (k + 1) y0 y1 y2 y3)) ∧ (∀ y0 y1 y2 y3 y4 y5, LeO (cenotaphref02_Add.l0 k y0 y1 y2 y3 y4 y5) (cenotaphref02_Add.l0 (k + 1) y0 y1 y2 y3 y4 y5)) ∧ (∀ y0 y1 y2, LeO (cenotaphref02_Add.j2 k y0 y1 y2) (cenotaphref02_Add.j2 (k + 1) y0 y1 y2)) ∧ (∀ y0 y1, LeO (cenotaphref02_Add.l1 k y0 y1) (cenotaphref02_Add.l1 (k + 1) y0 y1))
 | 0 => ⟨fun _ _ _ _ r h => by simp [cenotaphref02_Add.j0] at h, fun _ _ _ _ _ _ r h => by simp [cenotaphref02_Add.l0] at h, fun _ _ _ r h => by simp [cenotaphref02_Add.j2] at h, fun _ _ r h => by simp [cenotaphref02_Add.l1] at h⟩
 | k + 1 => by
  obtain ⟨ih0, ih1, ih2, ih3⟩ := cenotaphref02_Add.mono_l k
  refine ⟨?_, ?_, ?_, ?_⟩
  ·intro y0 y1 y2 y3
   unfold cenotaphref02_Add.j0
   repeat' first
   | (with_reducible exact ih0 _ _ _ _)
   | (with_reducible exact ih1 _ _ _ _ _ _)
   | (with_reducible exact ih2 _ _ _)
   | (with_reducible exact ih3 _ _)
   | (with_reducible exact cenotaphref02_Has.mono _ _ _ _)
   | (with_reducible exact LeO.refl _)
   | (with_reducible exact LeO.none _)
   | (with_reducible refine LeO.ite ?_ ?_)
   | (with_reducible refine LeO.bind ?_ (fun _ => ?_))
   | exact ih0 _ _ _ _
   | exact ih1 _ _ _ _ _ _
   | exact ih2 _ _ _
   | exact ih3 _ _
   | exact cenotaphref02_Has.mono _ _ _ _
   | exact LeO.none _
   | refine LeO.ite ?_ ?_
   | refine LeO.bind ?_ (fun _ => ?_)
  ·intro y0 y1 y2 y3 y4 y5
   unfold cenotaphref02_Add.l0
   repeat' first
   | (with_reducible exact ih0 _ _ _ _)
   | (with_reducible exact ih1 _ _ _ _ _ _)
   | (with_reducible exact ih2 _ _ _)
   | (with_reducible exact ih3 _ _)
   | (with_reducible exact cenotaphref02_Has.mono _ _ _ _)
   | (with_reducible exact LeO.refl _)
   | (with_reducible exact LeO.none _)
   | (with_reducible refine LeO.ite ?_ ?_)
   | (with_reducible refine LeO.bind ?_ (fun _ => ?_))
   | exact ih0 _ _ _ _
   | exact ih1 _ _ _ _ _ _
   | exact ih2 _ _ _
   | exact ih3 _ _
   | exact cenotaphref02_Has.mono _ _ _ _
   | exact LeO.none _
   | refine LeO.ite ?_ ?_
   | refine LeO.bind ?_ (fun _ => ?_)
  ·intro y0 y1 y2
   unfold cenotaphref02_Add.j2
   repeat' first
   | (with_reducible exact ih0 _ _ _ _)
   | (with_reducible exact ih1 _ _ _ _ _ _)
   | (with_reducible exact ih2 _ _ _)
   | (with_reducible exact ih3 _ _)
   | (with_reducible exact cenotaphref02_Has.mono _ _ _ _)
   | (with_reducible exact LeO.refl _)
   | (with_reducible exact LeO.none _)
   | (with_reducible refine LeO.ite ?_ ?_)
   | (with_reducible refine LeO.bind ?_ (fun _ => ?_))
   | exact ih0 _ _ _ _
   | exact ih1 _ _ _ _ _ _
   | exact ih2 _ _ _
   | exact ih3 _ _
   | exact cenotaphref02_Has.mono _ _ _ _
   | exact LeO.none _
   | refine LeO.ite ?_ ?_
   | refine LeO.bind ?_ (fun _ => ?_)
  ·intro y0 y1
   unfold cenotaphref02_Add.l1
   repeat' first
   | (with_reducible exact ih0 _ _ _ _)
   | (with_reducible exact ih1 _ _ _ _ _ _)
   | (with_reducible exact ih2 _ _ _)
   | (with_reducible exact ih3 _ _)
   | (with_reducible exact cenotaphref02_Has.mono _ _ _ _)
   | (with_reducible exact LeO.refl _)
   | (with_reducible exact LeO.none _)
   | (with_reducible refine LeO.ite ?_ ?_)
   | (with_reducible refine LeO.bind ?_ (fun _ => ?_))
   | exact ih0 _ _ _ _
   | exact ih1 _ _ _ _ _ _
   | exact ih2 _ _ _
   | exact ih3 _ _
   | exact cenotaphref02_Has.mono _ _ _ _
   | exact LeO.none _
   | refine LeO.ite ?_ ?_
   | refine LeO.bind ?_ (fun _ => ?_)
theorem cenotaphref02_Add.mono : ∀ a0 a1 a2 k, LeO (cenotaphref02_Add.f k a0 a1 a2) (cenotaphref02_Add.f (k + 1) a0 a1 a2) := by
 intro a0 a1 a2 k
 obtain ⟨ih0, ih1, ih2, ih3⟩ := cenotaphref02_Add.mono_l k
 unfold cenotaphref02_Add.f
 repeat' first
   | (with_reducible exact ih0 _ _ _ _)
   | (with_reducible exact ih1 _ _ _ _ _ _)
   | (with_reducible exact ih2 _ _ _)
   | (with_reducible exact ih3 _ _)
   | (with_reducible exact cenotaphref02_Has.mono _ _ _ _)
   | (with_reducible exact LeO.refl _)
   | (with_reducible exact LeO.none _)
   | (with_reducible refine LeO.ite ?_ ?_)
   | (with_reducible refine LeO.bind ?_ (fun _ => ?_))
   | exact ih0 _ _ _ _
   | exact ih1 _ _ _ _ _ _
   | exact ih2 _ _ _
   | exact ih3 _ _
   | exact cenotaphref02_Has.mono _ _ _ _
   | exact LeO.none _
   | refine LeO.ite ?_ ?_
   | refine LeO.bind ?_ (fun _ => ?_)
def cenotaphref02_Add.T2 : Bool × List (List Nat × List Nat) := (true, [([], []), ([0], [0]), ([], []), ([], []), ([3], [3]), ([2, 4], [2, 4]), ([1, 5], [1, 5]), ([6, 5, 0, 1, 2, 3, 4, 5, 6], [6])])
def cenotaphref02_Add.B2 : List Nat := [0, 1, 0, 0, 8, 28, 63, 127]
theorem cenotaphref02_Add.tab2 : rtab .any (opsOf Tryz.f61 2) = cenotaphref02_Add.T2 := by kernel_rfl
theorem cenotaphref02_Add.bits2 : waitsOk cenotaphref02_Add.T2.2 cenotaphref02_Add.B2 = true := by kernel_rfl
theorem cenotaphref02_Add.calls (k : Nat) (a0_0 : Int) (A0_1 : Option Addr) (c0_1 : Nat) (l0_1 : List Int) (a1 : Int) (r1 : Int) (r2 : List Int) (w : World) (hr0_1 : Kd.C (Kd.int .i64) w A0_1 l0_1.length l0_1) (hc0_1 : l0_1.length ≤ c0_1) (h : cenotaphref02_Add.f k a0_0 l0_1 a1 = some (r1, r2)) :
  Calls Tryz.prog 61 #[.agg #[.int .i64 a0_0, .slice A0_1 l0_1.length c0_1], .int .i64 a1] w fun e w' => ∃ v1_ : Value, e = .returned (.agg #[.int .i64 r1, v1_]) ∧ Kd.R (Kd.int .i64) 3 w' w.heap.size (fun _ => True) v1_ r2 ∧ Below w.heap.size w w' := by
 have hu59 := Tryz.underlying59
 have HR0_1 := aK hr0_1
 have HC0_1 := aK hc0_1
 clear hr0_1 hc0_1
 have HB := aK (Below.refl w.heap.size w)
 have H : (if a1 < 1 then (cenotaphref02_Add.j0 k a1 true a0_0 l0_1) else (if a1 > 1048576 then (cenotaphref02_Add.j0 k a1 true a0_0 l0_1) else ((cenotaphref02_Has.f k a0_0 l0_1 a1).bind fun t111 => (cenotaphref02_Add.j0 k a1 t111 a0_0 l0_1)))) = some (r1, r2) := h
 clear h
 have HC3 := aK H
 clear H
 go_enter Tryz.func61, Tryz.ntmps61
 go_upto_region 1 with (first | ((with_reducible refine gate_dst (N := 2) rfl ?_); refine box_event ?hg (N := 2) ?hd (cs := #[.int .i64 a0_0, .slice A0_1 l0_1.length c0_1]) (t := 59) ?hr ?_; (case hd => rfl); (case hg => rfl); (case hr => first | (go_simp; done) | (go_simp; rfl)); intro gb109 hg w4 hbox hb; have BK109 := aK (hbox); have GW109 := aK (((by rw [hg]; exact (below_size zq61_2)) : w.heap.size ≤ gb109)); have GE109 := aK (((by rw [hg]; exact (below_size zq61_2)) : w.heap.size ≤ gb109)); replace HB := aK (bS zq61_2 hb); clear hb hbox hg) | ((with_reducible refine gate_dst (N := 4) rfl ?_); refine box_event ?hg (N := 4) ?hd (cs := #[.int .i64 0, .slice none 0 0]) (t := 59) ?hr ?_; (case hd => rfl); (case hg => rfl); (case hr => first | (go_simp; done) | (go_simp; rfl)); intro gb110 hg w5 hbox hb; have BK110 := aK (hbox); have GW110 := aK (((by rw [hg]; exact (below_size zq61_1)) : w.heap.size ≤ gb110)); have GE110 := aK (((by rw [hg]; exact (below_size zq61_1)) : w.heap.size ≤ gb110)); replace HB := aK (bS zq61_1 hb); have NB109_110 := aK (((by rw [hg]; exact Nat.ne_of_lt (blk_lt (g := gb109) (o := .cells #[.int .i64 a0_0, .slice A0_1 l0_1.length c0_1] 59 (0, 0)) zq61_3)) : gb109 ≠ gb110)); have NB110_109 := aK (((by rw [hg]; exact Nat.ne_of_gt (blk_lt (g := gb109) (o := .cells #[.int .i64 a0_0, .slice A0_1 l0_1.length c0_1] 59 (0, 0)) zq61_3)) : gb110 ≠ gb109)); replace BK109 := aK (bB (g := gb109) (o := .cells #[.int .i64 a0_0, .slice A0_1 l0_1.length c0_1] 59 (0, 0)) zq61_3 hb); clear hb hbox hg))
 (try simp only [Act.put, lA, lB, lC])
 go_cut [19] (fun v19 wc => ∃ (kq : Nat) (x19_2 : Bool), v19 = .bool x19_2 ∧ Aside0 (cenotaphref02_Add.j0 kq a1 x19_2 a0_0 l0_1 = some (r1, r2)) ∧ Aside0 (kq ≤ k) ∧ Aside0 (wc.heap[gb109]? = some (.cells #[.int .i64 a0_0, (.slice A0_1 l0_1.length c0_1)] 59 (0, 0))) ∧ Aside0 (wc.heap[gb110]? = some (.cells #[.int .i64 0, (.slice none 0 0)] 59 (0, 0))) ∧ Aside0 (Below w.heap.size w wc))
 case first =>
  have H := HC3.out
  clear HC3
  by_cases c6 : a1 < 1
  ·rw [if_pos c6] at H
   have c6b0 : decide (a1 < 1) = true := dT c6
   clear c6
   (first | rw [c6b0] | (simp only [i64_w, i32_w]; rw [c6b0]) | skip)
   have H' := aK H
   clear H
   go_wp2
   go_meet
   case rel => exact ⟨_, (true), zq61_7, H', ⟨by first | omega | exact Nat.le_refl _⟩, ⟨by (with_reducible repeat (first | refine blk_drewN ?_ _ | refine blk_drew ?_ | refine blk_alloc ?_ _)); exact BK109.out⟩, ⟨by (with_reducible repeat (first | refine blk_drewN ?_ _ | refine blk_drew ?_ | refine blk_alloc ?_ _)); exact BK110.out⟩, ⟨by repeat (first | (with_reducible first | exact HB.out | apply bA | apply pB | apply bW | refine below_set ?_ GE109.out | refine below_set ?_ GE110.out) | exact HB.out)⟩⟩
  ·rw [if_neg c6] at H
   have c6b0 : decide (a1 < 1) = false := decide_eq_false c6
   clear c6
   (first | rw [c6b0] | (simp only [i64_w, i32_w]; rw [c6b0]) | skip)
   by_cases c7 : a1 > 1048576
   ·rw [if_pos c7] at H
    have c7b0 : decide (1048576 < a1) = true := dT c7
    clear c7
    have H' := aK H
    clear H
    go_wp2
    go_meet
    case rel => exact ⟨_, (true), zq61_7, H', ⟨by first | omega | exact Nat.le_refl _⟩, ⟨by (with_reducible repeat (first | refine blk_drewN ?_ _ | refine blk_drew ?_ | refine blk_alloc ?_ _)); exact BK109.out⟩, ⟨by (with_reducible repeat (first | refine blk_drewN ?_ _ | refine blk_drew ?_ | refine blk_alloc ?_ _)); exact BK110.out⟩, ⟨by repeat (first | (with_reducible first | exact HB.out | apply bA | apply pB | apply bW | refine below_set ?_ GE109.out | refine below_set ?_ GE110.out) | exact HB.out)⟩⟩
   ·rw [if_neg c7] at H
    have c7b0 : decide (1048576 < a1) = false := decide_eq_false c7
    clear c7
    replace H := bM H
    obtain ⟨t111, A80, H⟩ := H
    replace H : (cenotaphref02_Add.j0 k a1 t111 a0_0 l0_1) = some (r1, r2) := H
    have A8 := aK A80
    clear A80
    have H' := aK H
    clear H
    have hnb9 := NB109_110.out
    have hnc9 := NB110_109.out
    have hcz10_0 : w5.cell? ⟨gb109, 0, none⟩ = some (.int .i64 a0_0) := (bC BK109.out 0).trans rfl
    have hcz10_1 : w5.cell? ⟨gb109, 1, none⟩ = some (.slice A0_1 l0_1.length c0_1) := (bC BK109.out 1).trans rfl
    have hfz10_0 := bF_ BK109.out 0
    have hfz10_1 := bF_ BK109.out 1
    go_wp2_with (first | (go_at_call 78; (with_reducible refine (cenotaphref02_Has.calls k a0_0 _ _ l0_1 a1 t111 _ ?side1 ?side2 A8.out).mono ?_); (case side1 => repeat (first | exact (cB HR0_1.out HB.out) | (with_reducible refine Kd.C_alloc ?_ _) | (with_reducible refine Kd.C_drewN ?_ _) | (with_reducible refine Kd.C_drew ?_))); (case side2 => exact HC0_1.out); rintro e w11 ⟨rfl, hb⟩; replace BK109 := aK (bB (g := gb109) (o := .cells #[.int .i64 a0_0, .slice A0_1 l0_1.length c0_1] 59 (0, 0)) zq61_3 hb); replace BK110 := aK (bB (g := gb110) (o := .cells #[.int .i64 0, .slice none 0 0] 59 (0, 0)) zq61_4 hb); replace HB := aK (bS zq61_0 hb); (try clear hb); (try clear hb2); (try clear hk); (try clear hi)))
    go_meet
    case rel => exact ⟨_, (t111), zq61_7, H', ⟨by first | omega | exact Nat.le_refl _⟩, ⟨by (with_reducible repeat (first | refine blk_drewN ?_ _ | refine blk_drew ?_ | refine blk_alloc ?_ _)); exact BK109.out⟩, ⟨by (with_reducible repeat (first | refine blk_drewN ?_ _ | refine blk_drew ?_ | refine blk_alloc ?_ _)); exact BK110.out⟩, ⟨by repeat (first | (with_reducible first | exact HB.out | apply bA | apply pB | apply bW | refine below_set ?_ GE109.out | refine below_set ?_ GE110.out) | exact HB.out)⟩⟩
 case rest =>
  clear HC3
  try clear p2
  try clear c6
  try clear c6b0
  try clear c7
  try clear c7b0
  try clear c9
  try clear hcz10_0
  try clear hcz10_1
  try clear hfz10_0
  try clear hfz10_1
  obtain ⟨kq, x19_2, rfl, HA, HJ2, BK109, BK110, HB⟩ := hcut
  cases kq with
  | zero => exact absurd HA.out (by simp [cenotaphref02_Add.j0])
  | succ kj2 =>
   have H := HA.out
   clear HA
   simp only [cenotaphref02_Add.j0] at H
   by_cases c12 : x19_2 = true
   ·subst c12
    have H1 : ((some (([] : List Int) : List Int)).bind fun y112 => (if y112.length + l0_1.length < 17592186044416 then (some (a0_0, (y112 ++ l0_1))) else (none))) = some (r1, r2) := by rw [if_pos rfl] at H; exact H
    clear H
    have H := H1
    clear H1
    obtain ⟨y112, hy112⟩ : ∃ y_ : List Int, y_ = (([] : List Int)) := ⟨_, rfl⟩
    replace H : (if y112.length + l0_1.length < 17592186044416 then (some (a0_0, (y112 ++ l0_1))) else (none)) = some (r1, r2) := by first | (rw [hy112]; with_reducible exact H) | (have H2_ := (Option.bind_some _ _).symm.trans H; rw [hy112]; with_reducible exact H2_) | (have H2_ := (Option.bind_some _ _).symm.trans H; with_reducible exact H2_) | with_reducible exact H | (rw [hy112]; exact H) | exact H
    have Ny112 := aK hy112
    clear hy112
    by_cases c13 : y112.length + l0_1.length < 17592186044416
    ·rw [if_pos c13] at H
     have LMc13 := aK c13
     clear c13
     obtain ⟨y115, hy115⟩ : ∃ y_ : List Int, y_ = (y112 ++ l0_1) := ⟨_, rfl⟩
     replace H : (some (a0_0, y115)) = some (r1, r2) := by first | (rw [hy115]; with_reducible exact H) | (have H2_ := (Option.bind_some _ _).symm.trans H; rw [hy115]; with_reducible exact H2_) | (have H2_ := (Option.bind_some _ _).symm.trans H; with_reducible exact H2_) | with_reducible exact H | (rw [hy115]; exact H) | exact H
     have Ny115 := aK hy115
     clear hy115
     simp only [Option.some.injEq, Prod.mk.injEq] at H
     obtain ⟨rfl, rfl⟩ := H
     try go_wp2
     replace BK109 := aK (blk_drew BK109.out)
     replace BK110 := aK (blk_drew BK110.out)
     replace HB := aK (bW HB.out)
     refine start_ (n := 8) (S := fun w' => w'.cell? ⟨gb109, 0, none⟩ = some (.int .i64 a0_0) ∧ w'.cell? ⟨gb109, 1, none⟩ = some (.slice A0_1 l0_1.length c0_1)) (ds := []) #[false, false, false, false, false, false, false, false] (by kernel_rfl) rfl rfl ⟨(bC BK109.out 0).trans rfl, (bC BK109.out 1).trans rfl⟩ (fun hHeld => ?_); refine with_tabW cenotaphref02_Add.tab2 cenotaphref02_Add.bits2 (fun HT_ HW_ => ?_)
     generalize wc.drew = w14 at BK109 BK110 HB hHeld ⊢
     refine p_ 0 20 (mk_ 8 0x1) ?_
     refine p_ 3 23 (mk_ 8 0x9) ?_
     refine t_ 1 21 (mk_ 8 0xb) hHeld ?_
     refine t_ 4 24 (mk_ 8 0x1b) hHeld ?_
     refine one_ (i := 2) (N := some 22) #[true, true, true, true, true, false, false, false] rfl rfl (one_of HT_.out (by kernel_rfl)) (by decide) (fun K hK => ?_)
     refine Kd.R_lit_step (Kd.int .i64) _ 3 ?hg (N := 22) ?hd (xs := ([] : List Int)) (inner := []) (ok := fun _ => True) (okp := fun _ => True) ?hr ?hp (fun _ hk => hk) trivial (Below.refl _ _) (Nat.le_refl _) (by simp) ?_; (case hd => rfl); (case hg => rfl); (case hr => first | (go_simp; done) | (go_simp; rfl)); (case hp => exact (Reps.none _ _))
     intro v113 w15 ho16 hb hg_ hnew_
     clear hg_ hnew_
     (first | rw [← Ny112.out] at ho16 | (simp only [Int.reduceToNat] at ho16; rw [← Ny112.out] at ho16))
     have HO114 := aK (Kd.R_lower ho16 (below_size zq61_0))
     replace BK109 := aK (bB (g := gb109) (o := .cells #[.int .i64 a0_0, .slice A0_1 l0_1.length c0_1] 59 (0, 0)) zq61_3 hb)
     replace BK110 := aK (bB (g := gb110) (o := .cells #[.int .i64 0, .slice none 0 0] 59 (0, 0)) zq61_4 hb)
     replace HB := aK (bS zq61_0 hb)
     clear hb ho16
     refine hK.out _ _ ⟨(bC BK109.out 0).trans rfl, (bC BK109.out 1).trans rfl⟩ (fun hHeld => ?_)
     clear hK K
     refine norm_ (a' := ?_) ?_ ?_
     rotate_left
     ·show Act.put _ (some 22) _ = _
      simp only [Act.put, lA, lB, lC, i64_w, i32_w]
      rfl
     refine one_ (i := 5) (N := some 25) #[true, true, true, true, true, true, false, false] rfl rfl (one_of HT_.out (by kernel_rfl)) (by decide) (fun K hK => ?_)
     refine Kd.R_append_rows_step (Kd.int .i64) (w0 := w) w.heap.size (by rfl) (.tmp 22) (.tmp 24) 57 3 (.int .i64 0) 8 rfl Tryz.underlying57 info3 rfl (by decide) (by omega) v113 y112 l0_1 _ _ _ (fun _ => True) (fun _ => False) rfl rfl ?aO ?aR (fun _ _ h => h) (fun _ h => h.elim) ?aF ?aB ?aS ?aL ?_
     (case aR => repeat (first | exact (cB HR0_1.out HB.out) | (with_reducible refine Kd.C_alloc ?_ _) | (with_reducible refine Kd.C_drewN ?_ _) | (with_reducible refine Kd.C_drew ?_)))
     (case aB => exact zq61_0)
     (case aF => exact (fun _ _ => trivial))
     (case aO => exact (by (with_reducible repeat (first | apply Kd.R_alloc | apply Kd.R_drewN | apply Kd.R_drew)); exact HO114.out))
     (case aS => exact (below_size zq61_0))
     (case aL => have := LMc13.out; omega)
     intro v116 w17 ho hb hg hat
     rw [← Ny115.out] at ho
     replace BK109 := aK (blk_grown (g := gb109) (o := .cells #[.int .i64 a0_0, .slice A0_1 l0_1.length c0_1] 59 (0, 0)) zq61_3 hg (Kd.R_ne HO114.out BK109.out (by decide)))
     replace BK110 := aK (blk_grown (g := gb110) (o := .cells #[.int .i64 0, .slice none 0 0] 59 (0, 0)) zq61_4 hg (Kd.R_ne HO114.out BK110.out (by decide)))
     replace HB := aK (hb)
     have HO117 := aK (ho)
     clear HO114
     clear ho hb hg hat
     obtain ⟨Ao18, co18, eo18⟩ := Kd.R_slice HO117.out
     (first | subst eo18 | (injection eo18 with f1_ f2_ f3_; have f4_ := f1_.symm; have f5_ := f3_.symm; clear f1_ f2_ f3_; subst f4_; subst f5_))
     refine hK.out _ _ ⟨(bC BK109.out 0).trans rfl, (bC BK109.out 1).trans rfl⟩ (fun hHeld => ?_)
     clear hK K
     refine norm_ (a' := ?_) ?_ ?_
     rotate_left
     ·show Act.put _ (some 25) _ = _
      simp only [Act.put, lA, lB, lC, i64_w, i32_w]
      rfl
     refine p_ 6 26 (mk_ 8 0x7f) ?_
     refine one_ (i := 7) (N := none) #[true, true, true, true, true, true, true, true] rfl rfl (one_of HT_.out (by kernel_rfl)) (by decide) (fun K hK => ?_)
     have hs19 : w17.cell? ⟨gb110, 0, none⟩ = some (.int .i64 0) := (bC BK110.out 0).trans rfl
     have hfs19 := bF_ BK110.out 0
     have hns19_0 := NB109_110.out
     have hms19_0 := NB110_109.out
     have hs20 : w17.cell? ⟨gb110, 1, none⟩ = some (.slice none 0 0) := (bC BK110.out 1).trans rfl
     have hfs20 := bF_ BK110.out 1
     have hns20_0 := NB109_110.out
     have hms20_0 := NB110_109.out
     refine skip_ (w1 := ?_) (by rfl) rfl ?_ ?_
     rotate_left
     ·go_simp
      rfl
     refine hK.out _ _ ⟨((cell_far (p := ⟨gb110, _, none⟩) NB109_110.out _).trans (((cell_far (p := ⟨gb110, _, none⟩) NB109_110.out _).trans (hHeld.1)))), ((cell_far (p := ⟨gb110, _, none⟩) NB109_110.out _).trans (((cell_far (p := ⟨gb110, _, none⟩) NB109_110.out _).trans (hHeld.2))))⟩ (fun hHeld => ?_)
     clear hK K
     refine done_ (done_of HT_.out (by kernel_rfl)) ?_
     try go_wp2
     refine bodyPost_ret (results_cell_row rfl _ _ gb110 59 #[.int .i64 a0_0, .slice Ao18 y115.length co18] (0, 0) _ rfl (by (with_reducible repeat (first | refine blk_drewN ?_ _ | refine blk_drew ?_ | refine blk_alloc ?_ _)); refine blk_put (cs := #[.int .i64 a0_0, .slice none 0 0]) ?_ 1 _ rfl; (with_reducible repeat (first | refine blk_drewN ?_ _ | refine blk_drew ?_ | refine blk_alloc ?_ _)); refine blk_put (cs := #[.int .i64 0, .slice none 0 0]) ?_ 0 _ rfl; (with_reducible repeat (first | refine blk_drewN ?_ _ | refine blk_drew ?_ | refine blk_alloc ?_ _)); exact BK110.out) Tryz.underlying59 rfl (by kernel_rfl)) rfl ?_
     exact ⟨_, by first | rfl | (simp [errW_none, errW_some] <;> rfl) | (simp [*, errW_none, errW_some] <;> rfl), by (with_reducible repeat (first | apply Kd.R_alloc | apply Kd.R_drewN | apply Kd.R_drew)); exact Kd.R_mono (Kd.R_far (p := ⟨gb110, 1, none⟩) (Kd.R_far (p := ⟨gb110, 0, none⟩) (Kd.R_types HO117.out BK110.out (by decide)) (fun _ hk => hk.2) (.int .i64 a0_0)) (fun _ hk => hk.2) (.slice Ao18 y115.length co18)) (fun _ hk => trivial), by repeat (first | (with_reducible first | exact HB.out | apply bA | apply pB | apply bW | refine below_set ?_ GE109.out | refine below_set ?_ GE110.out) | exact HB.out)⟩
    ·rw [if_neg c13] at H
     exact absurd H (by simp)
   ·replace c12 := Bool.eq_false_iff.mpr c12
    subst c12
    have H1 : (cenotaphref02_Add.l0 kj2 a1 ([] : List Int) false 0 a0_0 l0_1) = some (r1, r2) := by rw [if_neg (show ¬ (false = true) by decide)] at H; exact H
    clear H
    have H := H1
    clear H1
    have H' := aK H
    clear H
    go_wp2
    go_loopg [5, 6, 7] kj2 (fun kq v5 v6 v7 w' => ∃ (x5_2 : List Int) (x6_2 : Bool) (x7_2 : Int), v6 = .bool x6_2 ∧ v7 = .int .i64 x7_2 ∧ Aside0 (cenotaphref02_Add.l0 kq a1 x5_2 x6_2 x7_2 a0_0 l0_1 = some (r1, r2)) ∧ Aside0 (kq ≤ kj2) ∧ Aside0 (Kd.Q (Kd.int .i64) 3 w' w.heap.size (fun _ => True) v5 x5_2) ∧ Aside0 (w'.heap[gb109]? = some (.cells #[.int .i64 a0_0, (.slice A0_1 l0_1.length c0_1)] 59 (0, 0))) ∧ Aside0 (w'.heap[gb110]? = some (.cells #[.int .i64 0, (.slice none 0 0)] 59 (0, 0))) ∧ Aside0 (Below w.heap.size w w'))
    case atStart => exact ⟨(([] : List Int)), (false), (0), zq61_7, zq61_7, H', ⟨Nat.le_refl _⟩, ⟨Kd.Q_of_R (by first | exact Kd.R_nil _ _ _ _ _ | exact Kd.N_nil _ _ _ _ _ | exact Kd.V_nil _ _ _ _ _ | exact Kd.Q_nil _ _ _ _ _ | exact Kd.S_nil _ _ _ _ _)⟩, ⟨by (with_reducible repeat (first | refine blk_drewN ?_ _ | refine blk_drew ?_ | refine blk_alloc ?_ _)); exact BK109.out⟩, ⟨by (with_reducible repeat (first | refine blk_drewN ?_ _ | refine blk_drew ?_ | refine blk_alloc ?_ _)); exact BK110.out⟩, ⟨by repeat (first | (with_reducible first | exact HB.out | apply bA | apply pB | apply bW | refine below_set ?_ GE109.out | refine below_set ?_ GE110.out) | exact HB.out)⟩⟩
    case round =>
     clear H'
     try clear c1
     try clear p2
     try clear c6
     try clear c6b0
     try clear c7
     try clear c7b0
     try clear c9
     try clear c12
     try clear c13
     try clear hcz10_0
     try clear hcz10_1
     try clear hfz10_0
     try clear hfz10_1
     try clear p2
     obtain ⟨x5_2, x6_2, x7_2, rfl, rfl, HA, HK2, HO_5, BK109, BK110, HB⟩ := hrel
     cases gk with
     | zero => exact absurd HA.out (by simp [cenotaphref02_Add.l0])
     | succ k2 =>
      have H := HA.out
      clear HA
      simp only [cenotaphref02_Add.l0] at H
      by_cases c21 : x7_2 < (l0_1.length : Int)
      ·rw [if_pos c21] at H
       have c21b0 : decide (x7_2 < (l0_1.length : Int)) = true := dT c21
       clear c21
       by_cases c22 : x6_2 = true
       ·subst c22
        have H1 : (if 0 ≤ x7_2 then (if x5_2.length < 17592186044416 then (cenotaphref02_Add.l0 k2 a1 (x5_2 ++ [rd l0_1 x7_2]) true (wrap64 (x7_2 + 1)) a0_0 l0_1) else (none)) else (none)) = some (r1, r2) := by rw [if_pos rfl] at H; exact H
        clear H
        have H := H1
        clear H1
        by_cases c23 : 0 ≤ x7_2
        ·rw [if_pos c23] at H
         have c23b0 : decide (0 ≤ x7_2) = true := dT c23
         clear c23
         by_cases c24 : x5_2.length < 17592186044416
         ·rw [if_pos c24] at H
          have LMc24 := aK c24
          clear c24
          obtain ⟨y119, hy119⟩ : ∃ y_ : List Int, y_ = (x5_2 ++ [rd l0_1 x7_2]) := ⟨_, rfl⟩
          replace H : (cenotaphref02_Add.l0 k2 a1 y119 true (wrap64 (x7_2 + 1)) a0_0 l0_1) = some (r1, r2) := by first | (rw [hy119]; with_reducible exact H) | (have H2_ := (Option.bind_some _ _).symm.trans H; rw [hy119]; with_reducible exact H2_) | (have H2_ := (Option.bind_some _ _).symm.trans H; with_reducible exact H2_) | with_reducible exact H | (rw [hy119]; exact H) | exact H
          have Ny119 := aK hy119
          clear hy119
          have H' := aK H
          clear H
          have hnb25 := NB109_110.out
          have hnc25 := NB110_109.out
          have hcz26_0 : wr.cell? ⟨gb109, 0, none⟩ = some (.int .i64 a0_0) := (bC BK109.out 0).trans rfl
          have hcz26_1 : wr.cell? ⟨gb109, 1, none⟩ = some (.slice A0_1 l0_1.length c0_1) := (bC BK109.out 1).trans rfl
          have hfz26_0 := bF_ BK109.out 0
          have hfz26_1 := bF_ BK109.out 1
          have p118 : 0 ≤ (x7_2 : Int) := oD zq61_6
          have q118 : x7_2 < (l0_1.length : Int) := oD zq61_6
          obtain ⟨ad118, e118, hx118_0⟩ := Kd.at_int HR0_1.out x7_2 p118 q118
          cases e118
          replace hx118_0 := pc_ HB hx118_0
          replace p118 := eT p118
          replace q118 := eT q118
          go_wp2_with (first | ((with_reducible refine gate_builtin (b := .append) (xs := #[.tmp 49, .tmp 55]) rfl ?_); at_builtin; refine Kd.Q_append (Kd.int .i64) (w0 := w) w.heap.size rfl (.tmp 49) (.tmp 55) 57 3 (.int .i64 0) 8 rfl Tryz.underlying57 info3 rfl (by decide) (by omega) u5 x5_2 (rd l0_1 x7_2) [.int .i64 (rd l0_1 x7_2)] (fun _ => True) (fun _ => False) rfl rfl ?aP (fun _ hk => hk.elim) ?aF ?aO ?aB ?aS ?aL ?_; (case aP => exact rfl); (case aB => exact zq61_0); (case aF => exact (fun _ _ => trivial)); (case aO => exact zq61_5); (case aS => exact (below_size zq61_0)); (case aL => have := LMc24.out; omega); intro v120 w27 ho hb hg hat; rw [← Ny119.out] at ho; replace BK109 := aK (blk_grown (g := gb109) (o := .cells #[.int .i64 a0_0, .slice (some ad118) l0_1.length c0_1] 59 (0, 0)) zq61_3 hg (Kd.Q_ne HO_5.out BK109.out (by decide))); replace BK110 := aK (blk_grown (g := gb110) (o := .cells #[.int .i64 0, .slice none 0 0] 59 (0, 0)) zq61_4 hg (Kd.Q_ne HO_5.out BK110.out (by decide))); replace HB := aK (hb); have HO121 := aK (ho); clear HO_5; clear ho hb hg hat))
          go_roundg k2
          case measure => have := HJ2.out; have := HK2.out; omega
          case rel => exact ⟨(y119), (true), (wrap64 (x7_2 + 1)), zq61_7, zq61_7, H', ⟨by have := HJ2.out; have := HK2.out; omega⟩, ⟨by (with_reducible repeat (first | apply Kd.Q_alloc | apply Kd.Q_drewN | apply Kd.Q_drew)); exact HO121.out⟩, ⟨by (with_reducible repeat (first | refine blk_drewN ?_ _ | refine blk_drew ?_ | refine blk_alloc ?_ _)); exact BK109.out⟩, ⟨by (with_reducible repeat (first | refine blk_drewN ?_ _ | refine blk_drew ?_ | refine blk_alloc ?_ _)); exact BK110.out⟩, ⟨by repeat (first | (with_reducible first | exact HB.out | apply bA | apply pB | apply bW | refine below_set ?_ GE109.out | refine below_set ?_ GE110.out) | exact HB.out)⟩⟩
         ·rw [if_neg c24] at H
          exact absurd H (by simp)
        ·rw [if_neg c23] at H
         exact absurd H (by simp)
       ·replace c22 := Bool.eq_false_iff.mpr c22
        subst c22
        have H1 : (if 0 ≤ x7_2 then (if (rd l0_1 x7_2) > a1 then (if x5_2.length < 17592186044416 then ((some (x5_2 ++ [a1] : List Int)).bind fun y123 => (if y123.length < 17592186044416 then (cenotaphref02_Add.l0 k2 a1 (y123 ++ [rd l0_1 x7_2]) true (wrap64 (x7_2 + 1)) a0_0 l0_1) else (none))) else (none)) else (if x5_2.length < 17592186044416 then (cenotaphref02_Add.l0 k2 a1 (x5_2 ++ [rd l0_1 x7_2]) false (wrap64 (x7_2 + 1)) a0_0 l0_1) else (none))) else (none)) = some (r1, r2) := by rw [if_neg (show ¬ (false = true) by decide)] at H; exact H
        clear H
        have H := H1
        clear H1
        by_cases c28 : 0 ≤ x7_2
        ·rw [if_pos c28] at H
         have c28b0 : decide (0 ≤ x7_2) = true := dT c28
         clear c28
         by_cases c29 : (rd l0_1 x7_2) > a1
         ·rw [if_pos c29] at H
          have c29b0 : decide (a1 < (rd l0_1 x7_2)) = true := dT c29
          clear c29
          by_cases c30 : x5_2.length < 17592186044416
          ·rw [if_pos c30] at H
           have LMc30 := aK c30
           clear c30
           obtain ⟨y123, hy123⟩ : ∃ y_ : List Int, y_ = (x5_2 ++ [a1]) := ⟨_, rfl⟩
           replace H : (if y123.length < 17592186044416 then (cenotaphref02_Add.l0 k2 a1 (y123 ++ [rd l0_1 x7_2]) true (wrap64 (x7_2 + 1)) a0_0 l0_1) else (none)) = some (r1, r2) := by first | (rw [hy123]; with_reducible exact H) | (have H2_ := (Option.bind_some _ _).symm.trans H; rw [hy123]; with_reducible exact H2_) | (have H2_ := (Option.bind_some _ _).symm.trans H; with_reducible exact H2_) | with_reducible exact H | (rw [hy123]; exact H) | exact H
           have Ny123 := aK hy123
           clear hy123
           by_cases c31 : y123.length < 17592186044416
           ·rw [if_pos c31] at H
            have LMc31 := aK c31
            clear c31
            obtain ⟨y127, hy127⟩ : ∃ y_ : List Int, y_ = (y123 ++ [rd l0_1 x7_2]) := ⟨_, rfl⟩
            replace H : (cenotaphref02_Add.l0 k2 a1 y127 true (wrap64 (x7_2 + 1)) a0_0 l0_1) = some (r1, r2) := by first | (rw [hy127]; with_reducible exact H) | (have H2_ := (Option.bind_some _ _).symm.trans H; rw [hy127]; with_reducible exact H2_) | (have H2_ := (Option.bind_some _ _).symm.trans H; with_reducible exact H2_) | with_reducible exact H | (rw [hy127]; exact H) | exact H
            have Ny127 := aK hy127
            clear hy127
            have H' := aK H
            clear H
            have hnb32 := NB109_110.out
            have hnc32 := NB110_109.out
            have hcz33_0 : wr.cell? ⟨gb109, 0, none⟩ = some (.int .i64 a0_0) := (bC BK109.out 0).trans rfl
            have hcz33_1 : wr.cell? ⟨gb109, 1, none⟩ = some (.slice A0_1 l0_1.length c0_1) := (bC BK109.out 1).trans rfl
            have hfz33_0 := bF_ BK109.out 0
            have hfz33_1 := bF_ BK109.out 1
            have p122 : 0 ≤ (x7_2 : Int) := oD zq61_6
            have q122 : x7_2 < (l0_1.length : Int) := oD zq61_6
            obtain ⟨ad122, e122, hx122_0⟩ := Kd.at_int HR0_1.out x7_2 p122 q122
            cases e122
            replace hx122_0 := pc_ HB hx122_0
            replace p122 := eT p122
            replace q122 := eT q122
            go_wp2_with (first | ((with_reducible refine gate_builtin (b := .append) (xs := #[.tmp 45, .tmp 47]) rfl ?_); at_builtin; refine Kd.Q_append (Kd.int .i64) (w0 := w) w.heap.size rfl (.tmp 45) (.tmp 47) 57 3 (.int .i64 0) 8 rfl Tryz.underlying57 info3 rfl (by decide) (by omega) u5 x5_2 a1 [.int .i64 a1] (fun _ => True) (fun _ => False) rfl rfl ?aP (fun _ hk => hk.elim) ?aF ?aO ?aB ?aS ?aL ?_; (case aP => exact rfl); (case aB => exact zq61_0); (case aF => exact (fun _ _ => trivial)); (case aO => exact zq61_5); (case aS => exact (below_size zq61_0)); (case aL => have := LMc30.out; omega); intro v124 w34 ho hb hg hat; rw [← Ny123.out] at ho; replace BK109 := aK (blk_grown (g := gb109) (o := .cells #[.int .i64 a0_0, .slice (some ad122) l0_1.length c0_1] 59 (0, 0)) zq61_3 hg (Kd.Q_ne HO_5.out BK109.out (by decide))); replace BK110 := aK (blk_grown (g := gb110) (o := .cells #[.int .i64 0, .slice none 0 0] 59 (0, 0)) zq61_4 hg (Kd.Q_ne HO_5.out BK110.out (by decide))); replace HB := aK (hb); have HO125 := aK (ho); clear HO_5; clear ho hb hg hat; have hcz35_0 : w34.cell? ⟨gb109, 0, none⟩ = some (.int .i64 a0_0) := (bC BK109.out 0).trans rfl; have hcz35_1 : w34.cell? ⟨gb109, 1, none⟩ = some (.slice (some ad122) l0_1.length c0_1) := (bC BK109.out 1).trans rfl; have hfz35_0 := bF_ BK109.out 0; have hfz35_1 := bF_ BK109.out 1; have p126 : 0 ≤ (x7_2 : Int) := oD zq61_6; have q126 : x7_2 < (l0_1.length : Int) := oD zq61_6; obtain ⟨ad126, e126, hx126_0⟩ := Kd.at_int HR0_1.out x7_2 p126 q126; obtain rfl : ad122 = ad126 := (by injection e126); replace hx126_0 := pc_ HB hx126_0; replace p126 := eT p126; replace q126 := eT q126) | ((with_reducible refine gate_builtin (b := .append) (xs := #[.tmp 49, .tmp 55]) rfl ?_); at_builtin; refine Kd.Q_append (Kd.int .i64) (w0 := w) w.heap.size rfl (.tmp 49) (.tmp 55) 57 3 (.int .i64 0) 8 rfl Tryz.underlying57 info3 rfl (by decide) (by omega) v124 y123 (rd l0_1 x7_2) [.int .i64 (rd l0_1 x7_2)] (fun _ => True) (fun _ => False) rfl rfl ?aP (fun _ hk => hk.elim) ?aF ?aO ?aB ?aS ?aL ?_; (case aP => exact rfl); (case aB => exact zq61_0); (case aF => exact (fun _ _ => trivial)); (case aO => exact (by (with_reducible repeat (first | apply Kd.Q_alloc | apply Kd.Q_drewN | apply Kd.Q_drew)); exact HO125.out)); (case aS => exact (below_size zq61_0)); (case aL => have := LMc31.out; omega); intro v128 w36 ho hb hg hat; rw [← Ny127.out] at ho; replace BK109 := aK (blk_grown (g := gb109) (o := .cells #[.int .i64 a0_0, .slice (some ad122) l0_1.length c0_1] 59 (0, 0)) zq61_3 hg (Kd.Q_ne HO125.out BK109.out (by decide))); replace BK110 := aK (blk_grown (g := gb110) (o := .cells #[.int .i64 0, .slice none 0 0] 59 (0, 0)) zq61_4 hg (Kd.Q_ne HO125.out BK110.out (by decide))); replace HB := aK (hb); have HO129 := aK (ho); clear HO125; clear ho hb hg hat))
            go_roundg k2
            case measure => have := HJ2.out; have := HK2.out; omega
            case rel => exact ⟨(y127), (true), (wrap64 (x7_2 + 1)), zq61_7, zq61_7, H', ⟨by have := HJ2.out; have := HK2.out; omega⟩, ⟨by (with_reducible repeat (first | apply Kd.Q_alloc | apply Kd.Q_drewN | apply Kd.Q_drew)); exact HO129.out⟩, ⟨by (with_reducible repeat (first | refine blk_drewN ?_ _ | refine blk_drew ?_ | refine blk_alloc ?_ _)); exact BK109.out⟩, ⟨by (with_reducible repeat (first | refine blk_drewN ?_ _ | refine blk_drew ?_ | refine blk_alloc ?_ _)); exact BK110.out⟩, ⟨by repeat (first | (with_reducible first | exact HB.out | apply bA | apply pB | apply bW | refine below_set ?_ GE109.out | refine below_set ?_ GE110.out) | exact HB.out)⟩⟩
           ·rw [if_neg c31] at H
            exact absurd H (by simp)
          ·rw [if_neg c30] at H
           exact absurd H (by simp)
         ·rw [if_neg c29] at H
          have c29b0 : decide (a1 < (rd l0_1 x7_2)) = false := decide_eq_false c29
          clear c29
          by_cases c37 : x5_2.length < 17592186044416
          ·rw [if_pos c37] at H
           have LMc37 := aK c37
           clear c37
           obtain ⟨y131, hy131⟩ : ∃ y_ : List Int, y_ = (x5_2 ++ [rd l0_1 x7_2]) := ⟨_, rfl⟩
           replace H : (cenotaphref02_Add.l0 k2 a1 y131 false (wrap64 (x7_2 + 1)) a0_0 l0_1) = some (r1, r2) := by first | (rw [hy131]; with_reducible exact H) | (have H2_ := (Option.bind_some _ _).symm.trans H; rw [hy131]; with_reducible exact H2_) | (have H2_ := (Option.bind_some _ _).symm.trans H; with_reducible exact H2_) | with_reducible exact H | (rw [hy131]; exact H) | exact H
           have Ny131 := aK hy131
           clear hy131
           have H' := aK H
           clear H
           have hnb38 := NB109_110.out
           have hnc38 := NB110_109.out
           have hcz39_0 : wr.cell? ⟨gb109, 0, none⟩ = some (.int .i64 a0_0) := (bC BK109.out 0).trans rfl
           have hcz39_1 : wr.cell? ⟨gb109, 1, none⟩ = some (.slice A0_1 l0_1.length c0_1) := (bC BK109.out 1).trans rfl
           have hfz39_0 := bF_ BK109.out 0
           have hfz39_1 := bF_ BK109.out 1
           have p122 : 0 ≤ (x7_2 : Int) := oD zq61_6
           have q122 : x7_2 < (l0_1.length : Int) := oD zq61_6
           obtain ⟨ad122, e122, hx122_0⟩ := Kd.at_int HR0_1.out x7_2 p122 q122
           cases e122
           replace hx122_0 := pc_ HB hx122_0
           replace p122 := eT p122
           replace q122 := eT q122
           have p130 : 0 ≤ (x7_2 : Int) := oD zq61_6
           have q130 : x7_2 < (l0_1.length : Int) := oD zq61_6
           obtain ⟨ad130, e130, hx130_0⟩ := Kd.at_int HR0_1.out x7_2 p130 q130
           obtain rfl : ad122 = ad130 := (by injection e130)
           replace hx130_0 := pc_ HB hx130_0
           replace p130 := eT p130
           replace q130 := eT q130
           go_wp2_with (first | ((with_reducible refine gate_builtin (b := .append) (xs := #[.tmp 49, .tmp 55]) rfl ?_); at_builtin; refine Kd.Q_append (Kd.int .i64) (w0 := w) w.heap.size rfl (.tmp 49) (.tmp 55) 57 3 (.int .i64 0) 8 rfl Tryz.underlying57 info3 rfl (by decide) (by omega) u5 x5_2 (rd l0_1 x7_2) [.int .i64 (rd l0_1 x7_2)] (fun _ => True) (fun _ => False) rfl rfl ?aP (fun _ hk => hk.elim) ?aF ?aO ?aB ?aS ?aL ?_; (case aP => exact rfl); (case aB => exact zq61_0); (case aF => exact (fun _ _ => trivial)); (case aO => exact zq61_5); (case aS => exact (below_size zq61_0)); (case aL => have := LMc37.out; omega); intro v132 w40 ho hb hg hat; rw [← Ny131.out] at ho; replace BK109 := aK (blk_grown (g := gb109) (o := .cells #[.int .i64 a0_0, .slice (some ad122) l0_1.length c0_1] 59 (0, 0)) zq61_3 hg (Kd.Q_ne HO_5.out BK109.out (by decide))); replace BK110 := aK (blk_grown (g := gb110) (o := .cells #[.int .i64 0, .slice none 0 0] 59 (0, 0)) zq61_4 hg (Kd.Q_ne HO_5.out BK110.out (by decide))); replace HB := aK (hb); have HO133 := aK (ho); clear HO_5; clear ho hb hg hat))
           go_roundg k2
           case measure => have := HJ2.out; have := HK2.out; omega
           case rel => exact ⟨(y131), (false), (wrap64 (x7_2 + 1)), zq61_7, zq61_7, H', ⟨by have := HJ2.out; have := HK2.out; omega⟩, ⟨by (with_reducible repeat (first | apply Kd.Q_alloc | apply Kd.Q_drewN | apply Kd.Q_drew)); exact HO133.out⟩, ⟨by (with_reducible repeat (first | refine blk_drewN ?_ _ | refine blk_drew ?_ | refine blk_alloc ?_ _)); exact BK109.out⟩, ⟨by (with_reducible repeat (first | refine blk_drewN ?_ _ | refine blk_drew ?_ | refine blk_alloc ?_ _)); exact BK110.out⟩, ⟨by repeat (first | (with_reducible first | exact HB.out | apply bA | apply pB | apply bW | refine below_set ?_ GE109.out | refine below_set ?_ GE110.out) | exact HB.out)⟩⟩
          ·rw [if_neg c37] at H
           exact absurd H (by simp)
        ·rw [if_neg c28] at H
         exact absurd H (by simp)
      ·rw [if_neg c21] at H
       have c21b0 : decide (x7_2 < (l0_1.length : Int)) = false := decide_eq_false c21
       clear c21
       have HC41 := aK H
       clear H
       have hnb42 := NB109_110.out
       have hnc42 := NB110_109.out
       have hcz43_0 : wr.cell? ⟨gb109, 0, none⟩ = some (.int .i64 a0_0) := (bC BK109.out 0).trans rfl
       have hcz43_1 : wr.cell? ⟨gb109, 1, none⟩ = some (.slice A0_1 l0_1.length c0_1) := (bC BK109.out 1).trans rfl
       have hfz43_0 := bF_ BK109.out 0
       have hfz43_1 := bF_ BK109.out 1
       go_upto_if 58 with (fail)
       go_cut [5] (fun v5 wc => ∃ (kq : Nat) (x5_40 : List Int), Aside0 (cenotaphref02_Add.j2 kq x5_40 a0_0 l0_1 = some (r1, r2)) ∧ Aside0 (kq ≤ k2) ∧ Aside0 (Kd.Q (Kd.int .i64) 3 wc w.heap.size (fun _ => True) v5 x5_40) ∧ Aside0 (wc.heap[gb109]? = some (.cells #[.int .i64 a0_0, (.slice A0_1 l0_1.length c0_1)] 59 (0, 0))) ∧ Aside0 (wc.heap[gb110]? = some (.cells #[.int .i64 0, (.slice none 0 0)] 59 (0, 0))) ∧ Aside0 (Below w.heap.size w wc))
       case first =>
        have H := HC41.out
        clear HC41
        by_cases c44 : x6_2 = true
        ·subst c44
         have H1 : (cenotaphref02_Add.j2 k2 x5_2 a0_0 l0_1) = some (r1, r2) := by rw [if_pos rfl] at H; exact H
         clear H
         have H := H1
         clear H1
         have H' := aK H
         clear H
         go_wp2
         go_meet
         case rel => exact ⟨_, (x5_2), H', ⟨by have := HJ2.out; have := HK2.out; first | omega | exact Nat.le_refl _⟩, ⟨by (with_reducible repeat (first | apply Kd.Q_alloc | apply Kd.Q_drewN | apply Kd.Q_drew)); exact HO_5.out⟩, ⟨by (with_reducible repeat (first | refine blk_drewN ?_ _ | refine blk_drew ?_ | refine blk_alloc ?_ _)); exact BK109.out⟩, ⟨by (with_reducible repeat (first | refine blk_drewN ?_ _ | refine blk_drew ?_ | refine blk_alloc ?_ _)); exact BK110.out⟩, ⟨by repeat (first | (with_reducible first | exact HB.out | apply bA | apply pB | apply bW | refine below_set ?_ GE109.out | refine below_set ?_ GE110.out) | exact HB.out)⟩⟩
        ·replace c44 := Bool.eq_false_iff.mpr c44
         subst c44
         have H1 : (if x5_2.length < 17592186044416 then (cenotaphref02_Add.j2 k2 (x5_2 ++ [a1]) a0_0 l0_1) else (none)) = some (r1, r2) := by rw [if_neg (show ¬ (false = true) by decide)] at H; exact H
         clear H
         have H := H1
         clear H1
         by_cases c45 : x5_2.length < 17592186044416
         ·rw [if_pos c45] at H
          have LMc45 := aK c45
          clear c45
          obtain ⟨y134, hy134⟩ : ∃ y_ : List Int, y_ = (x5_2 ++ [a1]) := ⟨_, rfl⟩
          replace H : (cenotaphref02_Add.j2 k2 y134 a0_0 l0_1) = some (r1, r2) := by first | (rw [hy134]; with_reducible exact H) | (have H2_ := (Option.bind_some _ _).symm.trans H; rw [hy134]; with_reducible exact H2_) | (have H2_ := (Option.bind_some _ _).symm.trans H; with_reducible exact H2_) | with_reducible exact H | (rw [hy134]; exact H) | exact H
          have Ny134 := aK hy134
          clear hy134
          have H' := aK H
          clear H
          go_wp2_with (first | ((with_reducible refine gate_builtin (b := .append) (xs := #[.tmp 59, .tmp 61]) rfl ?_); at_builtin; refine Kd.Q_append (Kd.int .i64) (w0 := w) w.heap.size rfl (.tmp 59) (.tmp 61) 57 3 (.int .i64 0) 8 rfl Tryz.underlying57 info3 rfl (by decide) (by omega) u5 x5_2 a1 [.int .i64 a1] (fun _ => True) (fun _ => False) rfl rfl ?aP (fun _ hk => hk.elim) ?aF ?aO ?aB ?aS ?aL ?_; (case aP => exact rfl); (case aB => exact zq61_0); (case aF => exact (fun _ _ => trivial)); (case aO => exact zq61_5); (case aS => exact (below_size zq61_0)); (case aL => have := LMc45.out; omega); intro v135 w46 ho hb hg hat; rw [← Ny134.out] at ho; replace BK109 := aK (blk_grown (g := gb109) (o := .cells #[.int .i64 a0_0, .slice A0_1 l0_1.length c0_1] 59 (0, 0)) zq61_3 hg (Kd.Q_ne HO_5.out BK109.out (by decide))); replace BK110 := aK (blk_grown (g := gb110) (o := .cells #[.int .i64 0, .slice none 0 0] 59 (0, 0)) zq61_4 hg (Kd.Q_ne HO_5.out BK110.out (by decide))); replace HB := aK (hb); have HO136 := aK (ho); clear HO_5; clear ho hb hg hat))
          go_meet
          case rel => exact ⟨_, (y134), H', ⟨by have := HJ2.out; have := HK2.out; first | omega | exact Nat.le_refl _⟩, ⟨by (with_reducible repeat (first | apply Kd.Q_alloc | apply Kd.Q_drewN | apply Kd.Q_drew)); exact HO136.out⟩, ⟨by (with_reducible repeat (first | refine blk_drewN ?_ _ | refine blk_drew ?_ | refine blk_alloc ?_ _)); exact BK109.out⟩, ⟨by (with_reducible repeat (first | refine blk_drewN ?_ _ | refine blk_drew ?_ | refine blk_alloc ?_ _)); exact BK110.out⟩, ⟨by repeat (first | (with_reducible first | exact HB.out | apply bA | apply pB | apply bW | refine below_set ?_ GE109.out | refine below_set ?_ GE110.out) | exact HB.out)⟩⟩
         ·rw [if_neg c45] at H
          exact absurd H (by simp)
       case rest =>
        clear HC41
        try clear c1
        try clear p1
        try clear q1
        try clear hx1
        try clear c2
        try clear p2
        try clear c3
        try clear c4
        try clear c6
        try clear c6b0
        try clear p6
        try clear c7
        try clear c7b0
        try clear c9
        try clear p11
        try clear q11
        try clear hx11
        try clear c12
        try clear p12
        try clear q12
        try clear hx12
        try clear c13
        try clear p13
        try clear q13
        try clear hx13
        try clear c21
        try clear c21b0
        try clear c22
        try clear c23
        try clear c23b0
        try clear c24
        try clear c25
        try clear c28
        try clear c28b0
        try clear c29
        try clear c29b0
        try clear c30
        try clear c31
        try clear c32
        try clear c37
        try clear c38
        try clear c42
        try clear c44
        try clear c45
        try clear hcz10_0
        try clear hcz10_1
        try clear hcz26_0
        try clear hcz26_1
        try clear hcz33_0
        try clear hcz33_1
        try clear hcz35_0
        try clear hcz35_1
        try clear hcz39_0
        try clear hcz39_1
        try clear hcz43_0
        try clear hcz43_1
        try clear hfz10_0
        try clear hfz10_1
        try clear hfz26_0
        try clear hfz26_1
        try clear hfz33_0
        try clear hfz33_1
        try clear hfz35_0
        try clear hfz35_1
        try clear hfz39_0
        try clear hfz39_1
        try clear hfz43_0
        try clear hfz43_1
        try clear hx118_0
        try clear hx122_0
        try clear hx126_0
        try clear hx130_0
        try clear p118
        try clear p122
        try clear p126
        try clear p130
        try clear p2
        try clear q118
        try clear q122
        try clear q126
        try clear q130
        obtain ⟨kq, x5_40, HA, HJ40, HO_5, BK109, BK110, HB⟩ := hcut
        cases kq with
        | zero => exact absurd HA.out (by simp [cenotaphref02_Add.j2])
        | succ kj40 =>
         have H := HA.out
         clear HA
         simp only [cenotaphref02_Add.j2] at H
         have H' := aK H
         clear H
         have hnb47 := NB109_110.out
         have hnc47 := NB110_109.out
         have hcz48_0 : wc.cell? ⟨gb109, 0, none⟩ = some (.int .i64 a0_0) := (bC BK109.out 0).trans rfl
         have hcz48_1 : wc.cell? ⟨gb109, 1, none⟩ = some (.slice A0_1 l0_1.length c0_1) := (bC BK109.out 1).trans rfl
         have hfz48_0 := bF_ BK109.out 0
         have hfz48_1 := bF_ BK109.out 1
         go_wp2
         go_loopg [5, 8] kj40 (fun kq v5 v8 w' => ∃ (x5_4 : List Int) (x8_4 : Int), v8 = .int .i64 x8_4 ∧ Aside0 (cenotaphref02_Add.l1 kq x5_4 x8_4 = some (r1, r2)) ∧ Aside0 (kq ≤ kj40) ∧ Aside0 (Kd.Q (Kd.int .i64) 3 w' w.heap.size (fun _ => True) v5 x5_4) ∧ Aside0 (w'.heap[gb109]? = some (.cells #[.int .i64 a0_0, (.slice A0_1 l0_1.length c0_1)] 59 (0, 0))) ∧ Aside0 (w'.heap[gb110]? = some (.cells #[.int .i64 0, (.slice none 0 0)] 59 (0, 0))) ∧ Aside0 (Below w.heap.size w w'))
         case atStart => exact ⟨(x5_40), (a0_0), zq61_7, H', ⟨Nat.le_refl _⟩, ⟨by (with_reducible repeat (first | apply Kd.Q_alloc | apply Kd.Q_drewN | apply Kd.Q_drew)); exact HO_5.out⟩, ⟨by (with_reducible repeat (first | refine blk_drewN ?_ _ | refine blk_drew ?_ | refine blk_alloc ?_ _)); exact BK109.out⟩, ⟨by (with_reducible repeat (first | refine blk_drewN ?_ _ | refine blk_drew ?_ | refine blk_alloc ?_ _)); exact BK110.out⟩, ⟨by repeat (first | (with_reducible first | exact HB.out | apply bA | apply pB | apply bW | refine below_set ?_ GE109.out | refine below_set ?_ GE110.out) | exact HB.out)⟩⟩
         case round =>
          clear H'
          try clear c1
          try clear p1
          try clear q1
          try clear hx1
          try clear c2
          try clear p2
          try clear c3
          try clear c4
          try clear c6
          try clear c6b0
          try clear p6
          try clear c7
          try clear c7b0
          try clear c9
          try clear p11
          try clear q11
          try clear hx11
          try clear c12
          try clear p12
          try clear q12
          try clear hx12
          try clear c13
          try clear p13
          try clear q13
          try clear hx13
          try clear c21
          try clear c21b0
          try clear c22
          try clear c23
          try clear c23b0
          try clear c24
          try clear c25
          try clear c28
          try clear c28b0
          try clear c29
          try clear c29b0
          try clear c30
          try clear c31
          try clear c32
          try clear c37
          try clear c38
          try clear c42
          try clear c44
          try clear c45
          try clear c47
          try clear hcz10_0
          try clear hcz10_1
          try clear hcz26_0
          try clear hcz26_1
          try clear hcz33_0
          try clear hcz33_1
          try clear hcz35_0
          try clear hcz35_1
          try clear hcz39_0
          try clear hcz39_1
          try clear hcz43_0
          try clear hcz43_1
          try clear hcz48_0
          try clear hcz48_1
          try clear hfz10_0
          try clear hfz10_1
          try clear hfz26_0
          try clear hfz26_1
          try clear hfz33_0
          try clear hfz33_1
          try clear hfz35_0
          try clear hfz35_1
          try clear hfz39_0
          try clear hfz39_1
          try clear hfz43_0
          try clear hfz43_1
          try clear hfz48_0
          try clear hfz48_1
          try clear hx118_0
          try clear hx122_0
          try clear hx126_0
          try clear hx130_0
          try clear p1
          try clear p11
          try clear p118
          try clear p12
          try clear p122
          try clear p126
          try clear p13
          try clear p130
          try clear p2
          try clear p6
          try clear q1
          try clear q11
          try clear q118
          try clear q12
          try clear q122
          try clear q126
          try clear q13
          try clear q130
          obtain ⟨x5_4, x8_4, rfl, HA, HK4, HO_5, BK109, BK110, HB⟩ := hrel
          cases gk with
          | zero => exact absurd HA.out (by simp [cenotaphref02_Add.l1])
          | succ k4 =>
           have H := HA.out
           clear HA
           simp only [cenotaphref02_Add.l1] at H
           by_cases c49 : (x5_4.length : Int) > 0
           ·rw [if_pos c49] at H
            have c49b0 : decide (0 < (x5_4.length : Int)) = true := dT c49
            have c49b1 : decide (0 < x5_4.length) = true := dT (by omega)
            clear c49
            by_cases c50 : 0 < (x5_4.length : Int)
            ·rw [if_pos c50] at H
             have c50b0 : decide (0 < (x5_4.length : Int)) = true := dT c50
             have c50b1 : decide (0 < x5_4.length) = true := dT (by omega)
             clear c50
             by_cases c51 : (rd x5_4 0) = (wrap64 (x8_4 + 1))
             ·rw [if_pos c51] at H
              have c51b0 : ((rd x5_4 0) == (wrap64 (x8_4 + 1))) = true := beq_iff_eq.mpr c51
              have c51b1 : ((rd x5_4 0) != (wrap64 (x8_4 + 1))) = false := bne_eq_false_iff_eq.mpr c51
              clear c51
              by_cases c52 : 1 ≤ (x5_4.length : Int)
              ·rw [if_pos c52] at H
               have c52b0 := eT c52
               have c52b1 : decide (1 ≤ (x5_4.length : Int)) = true := dT c52
               clear c52
               obtain ⟨y138, hy138⟩ : ∃ y_ : List Int, y_ = (x5_4.drop (1 : Int).toNat) := ⟨_, rfl⟩
               replace H : (cenotaphref02_Add.l1 k4 y138 (wrap64 (x8_4 + 1))) = some (r1, r2) := by first | (rw [hy138]; with_reducible exact H) | (have H2_ := (Option.bind_some _ _).symm.trans H; rw [hy138]; with_reducible exact H2_) | (have H2_ := (Option.bind_some _ _).symm.trans H; with_reducible exact H2_) | with_reducible exact H | (rw [hy138]; exact H) | exact H
               have Ny138 := aK hy138
               clear hy138
               have H' := aK H
               clear H
               obtain ⟨Ao53, co53, eo53, _⟩ := Kd.Q_slice HO_5.out
               subst eo53
               have p137 : 0 ≤ (0 : Int) := (by omega)
               have q137 : 0 < (x5_4.length : Int) := oD zq61_6
               obtain ⟨ad137, e137, hx137_0⟩ := Kd.at_int (Kd.Q_reads' HO_5.out).2.2 0 p137 q137
               cases e137
               have qi137 : (0 < x5_4.length) = True := eT (by omega)
               (try rw [show ((0 : Int)).toNat = 0 from rfl] at hx137_0)
               (try rw [Addr.add_zero'] at hx137_0)
               replace p137 := eT p137
               replace q137 := eT q137
               have q54 : (1 : Int) ≤ ((x5_4.length : Int) : Int) := oD zq61_6
               obtain ⟨i054, hi054, _, hsz54, _⟩ := info_parts info3
               have hcut54 := cut_from (P := Tryz.prog) 57 3 .i64 Tryz.underlying57 hi054 1 hsz54 (some ad137) x5_4.length co53 1 (by omega) q54
               have hr54 := Kd.Q_drop (k := (1 : Int).toNat) HO_5.out (by omega)
               obtain ⟨A54, hA54⟩ : ∃ A1, A1 = (if co53 = (1 : Int).toNat then (some ad137) else ((some ad137) : Option Addr).map (·.add ((1 : Int).toNat * 1))) := ⟨_, rfl⟩
               obtain ⟨c54, hc54⟩ : ∃ c1, c1 = co53 - (1 : Int).toNat := ⟨_, rfl⟩
               have hy54 : y138.length = x5_4.length - (1 : Int).toNat := (by rw [Ny138.out, List.length_drop])
               rw [← Ny138.out] at hr54
               rw [← hy54, ← hA54, ← hc54] at hcut54
               replace hr54 : Kd.Q (Kd.int .i64) 3 wr w.heap.size (fun _ => True) (.slice A54 y138.length c54) y138 := (by rw [hA54, hc54, hy54]; exact hr54)
               have HE54 : Aside0 ((Value.slice A54 y138.length c54).ownBlock = (.slice (some ad137) x5_4.length co53 : Value).ownBlock) := ⟨by rw [hA54]; split <;> (cases ((some ad137) : Option Addr) <;> rfl)⟩
               clear hy54 hi054 hsz54 HO_5 hA54 hc54
               have HO140 := aK hr54
               clear hr54
               replace q54 := eT q54
               go_wp2
               go_roundg k4
               case measure => have := HJ2.out; have := HK2.out; have := HJ40.out; have := HK4.out; omega
               case rel => exact ⟨(y138), (wrap64 (x8_4 + 1)), zq61_7, H', ⟨by have := HJ2.out; have := HK2.out; have := HJ40.out; have := HK4.out; omega⟩, ⟨by (with_reducible repeat (first | apply Kd.Q_alloc | apply Kd.Q_drewN | apply Kd.Q_drew)); exact HO140.out⟩, ⟨by (with_reducible repeat (first | refine blk_drewN ?_ _ | refine blk_drew ?_ | refine blk_alloc ?_ _)); exact BK109.out⟩, ⟨by (with_reducible repeat (first | refine blk_drewN ?_ _ | refine blk_drew ?_ | refine blk_alloc ?_ _)); exact BK110.out⟩, ⟨by repeat (first | (with_reducible first | exact HB.out | apply bA | apply pB | apply bW | refine below_set ?_ GE109.out | refine below_set ?_ GE110.out) | exact HB.out)⟩⟩
              ·rw [if_neg c52] at H
               exact absurd H (by simp)
             ·rw [if_neg c51] at H
              have c51b0 : ((rd x5_4 0) == (wrap64 (x8_4 + 1))) = false := beq_eq_false_iff_ne.mpr c51
              have c51b1 : ((rd x5_4 0) != (wrap64 (x8_4 + 1))) = true := bne_iff_ne.mpr c51
              obtain ⟨y141, hy141⟩ : ∃ y_ : List Int, y_ = (([] : List Int)) := ⟨_, rfl⟩
              replace H : (if y141.length + x5_4.length < 17592186044416 then (some (x8_4, (y141 ++ x5_4))) else (none)) = some (r1, r2) := by first | (rw [hy141]; with_reducible exact H) | (have H2_ := (Option.bind_some _ _).symm.trans H; rw [hy141]; with_reducible exact H2_) | (have H2_ := (Option.bind_some _ _).symm.trans H; with_reducible exact H2_) | with_reducible exact H | (rw [hy141]; exact H) | exact H
              have Ny141 := aK hy141
              clear hy141
              by_cases c55 : y141.length + x5_4.length < 17592186044416
              ·rw [if_pos c55] at H
               have LMc55 := aK c55
               clear c55
               obtain ⟨y144, hy144⟩ : ∃ y_ : List Int, y_ = (y141 ++ x5_4) := ⟨_, rfl⟩
               replace H : (some (x8_4, y144)) = some (r1, r2) := by first | (rw [hy144]; with_reducible exact H) | (have H2_ := (Option.bind_some _ _).symm.trans H; rw [hy144]; with_reducible exact H2_) | (have H2_ := (Option.bind_some _ _).symm.trans H; with_reducible exact H2_) | with_reducible exact H | (rw [hy144]; exact H) | exact H
               have Ny144 := aK hy144
               clear hy144
               simp only [Option.some.injEq, Prod.mk.injEq] at H
               obtain ⟨rfl, rfl⟩ := H
               obtain ⟨Ao56, co56, eo56, _⟩ := Kd.Q_slice HO_5.out
               subst eo56
               have p137 : 0 ≤ (0 : Int) := (by omega)
               have q137 : 0 < (x5_4.length : Int) := oD zq61_6
               obtain ⟨ad137, e137, hx137_0⟩ := Kd.at_int (Kd.Q_reads' HO_5.out).2.2 0 p137 q137
               cases e137
               have qi137 : (0 < x5_4.length) = True := eT (by omega)
               (try rw [show ((0 : Int)).toNat = 0 from rfl] at hx137_0)
               (try rw [Addr.add_zero'] at hx137_0)
               replace p137 := eT p137
               replace q137 := eT q137
               go_wp2_with (first | ((with_reducible refine gate_dst (N := 81) rfl ?_); refine Kd.R_lit (Kd.int .i64) _ 3 ?hg (N := 81) ?hd (xs := ([] : List Int)) (inner := []) (ok := fun _ => True) (okp := fun _ => True) ?hr ?hp (fun _ hk => hk) trivial (Below.refl _ _) (Nat.le_refl _) (by simp) ?_; (case hd => rfl); (case hg => rfl); (case hr => first | (go_simp; done) | (go_simp; rfl)); (case hp => exact (Reps.none _ _)); intro v142 w57 ho58 hb hg_ hnew_; clear hg_ hnew_; (first | rw [← Ny141.out] at ho58 | (simp only [Int.reduceToNat] at ho58; rw [← Ny141.out] at ho58)); have HO143 := aK (Kd.R_lower (Kd.R_new' ho58 (Kd.Q_lt zq61_5)) (below_size zq61_0)); replace HO_5 := aK (Kd.Q_elder' zq61_5 (Kd.R_base ho58) hb); replace BK109 := aK (bB (g := gb109) (o := .cells #[.int .i64 a0_0, .slice A0_1 l0_1.length c0_1] 59 (0, 0)) zq61_3 hb); replace BK110 := aK (bB (g := gb110) (o := .cells #[.int .i64 0, .slice none 0 0] 59 (0, 0)) zq61_4 hb); replace HB := aK (bS zq61_0 hb); clear hb ho58) | ((with_reducible refine gate_builtin (b := .append) (xs := #[.tmp 81, .tmp 82]) rfl ?_); at_builtin; refine Kd.R_append_rows (Kd.int .i64) (w0 := w) w.heap.size rfl (.tmp 81) (.tmp 82) 57 3 (.int .i64 0) 8 rfl Tryz.underlying57 info3 rfl (by decide) (by omega) v142 y141 x5_4 _ _ _ (fun k_ => some k_ ≠ (.slice (some ad137) x5_4.length co56 : Value).ownBlock) (fun _ => False) rfl rfl ?aO ?aR (fun _ _ h => h) (fun _ h => h.elim) ?aF ?aB ?aS ?aL ?_; (case aR => repeat (first | exact (Kd.Q_reads' HO_5.out).2.2 | (with_reducible refine Kd.C_alloc ?_ _) | (with_reducible refine Kd.C_drewN ?_ _) | (with_reducible refine Kd.C_drew ?_))); (case aB => exact zq61_0); (case aF => exact (fun k_ hk => Kd.fresh' (Kd.Q_lt zq61_5) k_ hk)); (case aO => exact (by (with_reducible repeat (first | apply Kd.R_alloc | apply Kd.R_drewN | apply Kd.R_drew)); exact Kd.R_mono HO143.out (fun _ hk => hk.2))); (case aS => exact (below_size zq61_0)); (case aL => have := LMc55.out; omega); intro v145 w59 ho hb hg hat; rw [← Ny144.out] at ho; replace HO_5 := aK (Kd.Q_after (ok := (fun _ => True)) zq61_5 hg hat); replace BK109 := aK (blk_grown (g := gb109) (o := .cells #[.int .i64 a0_0, .slice A0_1 l0_1.length c0_1] 59 (0, 0)) zq61_3 hg (Kd.R_ne HO143.out BK109.out (by decide))); replace BK110 := aK (blk_grown (g := gb110) (o := .cells #[.int .i64 0, .slice none 0 0] 59 (0, 0)) zq61_4 hg (Kd.R_ne HO143.out BK110.out (by decide))); replace HB := aK (hb); have HO146 := aK (ho); clear HO143; clear ho hb hg hat; obtain ⟨Ao60, co60, eo60⟩ := Kd.R_slice HO146.out; subst eo60; have hnb61 := NB110_109.out; have hnc61 := NB109_110.out; have hcz62_0 : w59.cell? ⟨gb110, 0, none⟩ = some (.int .i64 0) := (bC BK110.out 0).trans rfl; have hcz62_1 : w59.cell? ⟨gb110, 1, none⟩ = some (.slice none 0 0) := (bC BK110.out 1).trans rfl; have hfz62_0 := bF_ BK110.out 0; have hfz62_1 := bF_ BK110.out 1))
               refine bodyPost_ret (results_cell_row rfl _ _ gb110 59 #[.int .i64 x8_4, .slice Ao60 y144.length co60] (0, 0) _ rfl (by (with_reducible repeat (first | refine blk_drewN ?_ _ | refine blk_drew ?_ | refine blk_alloc ?_ _)); refine blk_put (cs := #[.int .i64 x8_4, .slice none 0 0]) ?_ 1 _ rfl; (with_reducible repeat (first | refine blk_drewN ?_ _ | refine blk_drew ?_ | refine blk_alloc ?_ _)); refine blk_put (cs := #[.int .i64 0, .slice none 0 0]) ?_ 0 _ rfl; (with_reducible repeat (first | refine blk_drewN ?_ _ | refine blk_drew ?_ | refine blk_alloc ?_ _)); exact BK110.out) Tryz.underlying59 rfl (by kernel_rfl)) rfl ?_
               exact ⟨_, by first | rfl | (simp [errW_none, errW_some] <;> rfl) | (simp [*, errW_none, errW_some] <;> rfl), by (with_reducible repeat (first | apply Kd.R_alloc | apply Kd.R_drewN | apply Kd.R_drew)); exact Kd.R_mono (Kd.R_far (p := ⟨gb110, 1, none⟩) (Kd.R_far (p := ⟨gb110, 0, none⟩) (Kd.R_types HO146.out BK110.out (by decide)) (fun _ hk => hk.2) (.int .i64 x8_4)) (fun _ hk => hk.2) (.slice Ao60 y144.length co60)) (fun _ hk => trivial), by repeat (first | (with_reducible first | exact HB.out | apply bA | apply pB | apply bW | refine below_set ?_ GE109.out | refine below_set ?_ GE110.out) | exact HB.out)⟩
              ·rw [if_neg c55] at H
               exact absurd H (by simp)
            ·rw [if_neg c50] at H
             exact absurd H (by simp)
           ·rw [if_neg c49] at H
            have c49b0 : decide (0 < (x5_4.length : Int)) = false := decide_eq_false c49
            have c49b1 : decide (0 < x5_4.length) = false := decide_eq_false (by omega)
            clear c49
            obtain ⟨y147, hy147⟩ : ∃ y_ : List Int, y_ = (([] : List Int)) := ⟨_, rfl⟩
            replace H : (if y147.length + x5_4.length < 17592186044416 then (some (x8_4, (y147 ++ x5_4))) else (none)) = some (r1, r2) := by first | (rw [hy147]; with_reducible exact H) | (have H2_ := (Option.bind_some _ _).symm.trans H; rw [hy147]; with_reducible exact H2_) | (have H2_ := (Option.bind_some _ _).symm.trans H; with_reducible exact H2_) | with_reducible exact H | (rw [hy147]; exact H) | exact H
            have Ny147 := aK hy147
            clear hy147
            by_cases c63 : y147.length + x5_4.length < 17592186044416
            ·rw [if_pos c63] at H
             have LMc63 := aK c63
             clear c63
             obtain ⟨y150, hy150⟩ : ∃ y_ : List Int, y_ = (y147 ++ x5_4) := ⟨_, rfl⟩
             replace H : (some (x8_4, y150)) = some (r1, r2) := by first | (rw [hy150]; with_reducible exact H) | (have H2_ := (Option.bind_some _ _).symm.trans H; rw [hy150]; with_reducible exact H2_) | (have H2_ := (Option.bind_some _ _).symm.trans H; with_reducible exact H2_) | with_reducible exact H | (rw [hy150]; exact H) | exact H
             have Ny150 := aK hy150
             clear hy150
             simp only [Option.some.injEq, Prod.mk.injEq] at H
             obtain ⟨rfl, rfl⟩ := H
             obtain ⟨Ao64, co64, eo64, _⟩ := Kd.Q_slice HO_5.out
             subst eo64
             go_wp2_with (first | ((with_reducible refine gate_dst (N := 81) rfl ?_); refine Kd.R_lit (Kd.int .i64) _ 3 ?hg (N := 81) ?hd (xs := ([] : List Int)) (inner := []) (ok := fun _ => True) (okp := fun _ => True) ?hr ?hp (fun _ hk => hk) trivial (Below.refl _ _) (Nat.le_refl _) (by simp) ?_; (case hd => rfl); (case hg => rfl); (case hr => first | (go_simp; done) | (go_simp; rfl)); (case hp => exact (Reps.none _ _)); intro v148 w65 ho66 hb hg_ hnew_; clear hg_ hnew_; (first | rw [← Ny147.out] at ho66 | (simp only [Int.reduceToNat] at ho66; rw [← Ny147.out] at ho66)); have HO149 := aK (Kd.R_lower (Kd.R_new' ho66 (Kd.Q_lt zq61_5)) (below_size zq61_0)); replace HO_5 := aK (Kd.Q_elder' zq61_5 (Kd.R_base ho66) hb); replace BK109 := aK (bB (g := gb109) (o := .cells #[.int .i64 a0_0, .slice A0_1 l0_1.length c0_1] 59 (0, 0)) zq61_3 hb); replace BK110 := aK (bB (g := gb110) (o := .cells #[.int .i64 0, .slice none 0 0] 59 (0, 0)) zq61_4 hb); replace HB := aK (bS zq61_0 hb); clear hb ho66) | ((with_reducible refine gate_builtin (b := .append) (xs := #[.tmp 81, .tmp 82]) rfl ?_); at_builtin; refine Kd.R_append_rows (Kd.int .i64) (w0 := w) w.heap.size rfl (.tmp 81) (.tmp 82) 57 3 (.int .i64 0) 8 rfl Tryz.underlying57 info3 rfl (by decide) (by omega) v148 y147 x5_4 _ _ _ (fun k_ => some k_ ≠ (.slice Ao64 x5_4.length co64 : Value).ownBlock) (fun _ => False) rfl rfl ?aO ?aR (fun _ _ h => h) (fun _ h => h.elim) ?aF ?aB ?aS ?aL ?_; (case aR => repeat (first | exact (Kd.Q_reads' HO_5.out).2.2 | (with_reducible refine Kd.C_alloc ?_ _) | (with_reducible refine Kd.C_drewN ?_ _) | (with_reducible refine Kd.C_drew ?_))); (case aB => exact zq61_0); (case aF => exact (fun k_ hk => Kd.fresh' (Kd.Q_lt zq61_5) k_ hk)); (case aO => exact (by (with_reducible repeat (first | apply Kd.R_alloc | apply Kd.R_drewN | apply Kd.R_drew)); exact Kd.R_mono HO149.out (fun _ hk => hk.2))); (case aS => exact (below_size zq61_0)); (case aL => have := LMc63.out; omega); intro v151 w67 ho hb hg hat; rw [← Ny150.out] at ho; replace HO_5 := aK (Kd.Q_after (ok := (fun _ => True)) zq61_5 hg hat); replace BK109 := aK (blk_grown (g := gb109) (o := .cells #[.int .i64 a0_0, .slice A0_1 l0_1.length c0_1] 59 (0, 0)) zq61_3 hg (Kd.R_ne HO149.out BK109.out (by decide))); replace BK110 := aK (blk_grown (g := gb110) (o := .cells #[.int .i64 0, .slice none 0 0] 59 (0, 0)) zq61_4 hg (Kd.R_ne HO149.out BK110.out (by decide))); replace HB := aK (hb); have HO152 := aK (ho); clear HO149; clear ho hb hg hat; obtain ⟨Ao68, co68, eo68⟩ := Kd.R_slice HO152.out; subst eo68; have hnb69 := NB110_109.out; have hnc69 := NB109_110.out; have hcz70_0 : w67.cell? ⟨gb110, 0, none⟩ = some (.int .i64 0) := (bC BK110.out 0).trans rfl; have hcz70_1 : w67.cell? ⟨gb110, 1, none⟩ = some (.slice none 0 0) := (bC BK110.out 1).trans rfl; have hfz70_0 := bF_ BK110.out 0; have hfz70_1 := bF_ BK110.out 1))
             refine bodyPost_ret (results_cell_row rfl _ _ gb110 59 #[.int .i64 x8_4, .slice Ao68 y150.length co68] (0, 0) _ rfl (by (with_reducible repeat (first | refine blk_drewN ?_ _ | refine blk_drew ?_ | refine blk_alloc ?_ _)); refine blk_put (cs := #[.int .i64 x8_4, .slice none 0 0]) ?_ 1 _ rfl; (with_reducible repeat (first | refine blk_drewN ?_ _ | refine blk_drew ?_ | refine blk_alloc ?_ _)); refine blk_put (cs := #[.int .i64 0, .slice none 0 0]) ?_ 0 _ rfl; (with_reducible repeat (first | refine blk_drewN ?_ _ | refine blk_drew ?_ | refine blk_alloc ?_ _)); exact BK110.out) Tryz.underlying59 rfl (by kernel_rfl)) rfl ?_
             exact ⟨_, by first | rfl | (simp [errW_none, errW_some] <;> rfl) | (simp [*, errW_none, errW_some] <;> rfl), by (with_reducible repeat (first | apply Kd.R_alloc | apply Kd.R_drewN | apply Kd.R_drew)); exact Kd.R_mono (Kd.R_far (p := ⟨gb110, 1, none⟩) (Kd.R_far (p := ⟨gb110, 0, none⟩) (Kd.R_types HO152.out BK110.out (by decide)) (fun _ hk => hk.2) (.int .i64 x8_4)) (fun _ hk => hk.2) (.slice Ao68 y150.length co68)) (fun _ hk => trivial), by repeat (first | (with_reducible first | exact HB.out | apply bA | apply pB | apply bW | refine below_set ?_ GE109.out | refine below_set ?_ GE110.out) | exact HB.out)⟩
            ·rw [if_neg c63] at H
             exact absurd H (by simp)
theorem zq31_0 {p_ : Prop} (h_ : p_ := by repeat (first | (with_reducible first | exact HB.out | apply bA | apply pB | apply bW | refine below_set ?_ GE153.out | refine below_set ?_ GE154.out) | exact HB.out)) : p_ := h_
theorem zq31_1 {p_ : Prop} (h_ : p_ := by repeat (first | (with_reducible first | exact HB.out | apply bA | apply pB | apply bW | refine below_set ?_ GE153.out) | exact HB.out)) : p_ := h_
theorem zq31_2 {p_ : Prop} (h_ : p_ := by repeat (first | (with_reducible first | exact HB.out | apply bA | apply pB | apply bW) | exact HB.out)) : p_ := h_
theorem zq31_3 {p_ : Prop} (h_ : p_ := by (with_reducible repeat (first | refine blk_drewN ?_ _ | refine blk_drew ?_ | refine blk_alloc ?_ _)); exact BK153.out) : p_ := h_
theorem zq31_4 {p_ : Prop} (h_ : p_ := by (with_reducible repeat (first | refine blk_drewN ?_ _ | refine blk_drew ?_ | refine blk_alloc ?_ _)); exact BK154.out) : p_ := h_
def cenotaphref02_Fix.l0 : Nat → Int → Int → List Int → Int → List Int → Option (Int × List Int)
 | 0, _, _, _, _, _ => none
 | k + 1, x4, x154000, x154001, x156000, x156001 => if x4 < (x154001.length : Int) then (if x4 < 30 then (if 0 ≤ x4 then ((cenotaphref02_Add.f k x156000 x156001 (wrap64 (1 + (wrap64 (Int.tmod (IntKind.u64.wrap (rd x154001 x4)) 60))))).bind fun bt157 => (cenotaphref02_Fix.l0 k (wrap64 (x4 + 1)) x154000 x154001 bt157.1 bt157.2)) else (none)) else (some (x156000, x156001))) else (some (x156000, x156001))
def cenotaphref02_Fix.f (k : Nat) (a0_0 : Int) (l0_1 : List Int) : Option (Int × List Int) := cenotaphref02_Fix.l0 k 0 a0_0 l0_1 (wrap64 (Int.tmod (IntKind.u64.wrap (a0_0)) 40)) ([] : List Int)
theorem cenotaphref02_Fix.mono_l : ∀ k, (∀ y0 y1 y2 y3 y4, LeO (cenotaphref02_Fix.l0 k y0 y1 y2 y3 y4) (cenotaphref02_Fix.l0 (k + 1) y0 y1 y2 y3 y4))
 | 0 => fun _ _ _ _ _ r h => by simp [cenotaphref02_Fix.l0] at h
 | k + 1 => by
  have ih0 := cenotaphref02_Fix.mono_l k
  ·intro y0 y1 y2 y3 y4
   unfold cenotaphref02_Fix.l0
   repeat' first
   | (with_reducible exact ih0 _ _ _ _ _)
   | (with_reducible exact cenotaphref02_Add.mono _ _ _ _)
   | (with_reducible exact LeO.refl _)
   | (with_reducible exact LeO.none _)
   | (with_reducible refine LeO.ite ?_ ?_)
   | (with_reducible refine LeO.bind ?_ (fun _ => ?_))
   | exact ih0 _ _ _ _ _
   | exact cenotaphref02_Add.mono _ _ _ _
   | exact LeO.none _
   | refine LeO.ite ?_ ?_
   | refine LeO.bind ?_ (fun _ => ?_)
theorem cenotaphref02_Fix.mono : ∀ a0 a1 k, LeO (cenotaphref02_Fix.f k a0 a1) (cenotaphref02_Fix.f (k + 1) a0 a1) := by
 intro a0 a1 k
 have ih0 := cenotaphref02_Fix.mono_l k
 unfold cenotaphref02_Fix.f
 repeat' first
   | (with_reducible exact ih0 _ _ _ _ _)
   | (with_reducible exact cenotaphref02_Add.mono _ _ _ _)
   | (with_reducible exact LeO.refl _)
   | (with_reducible exact LeO.none _)
   | (with_reducible refine LeO.ite ?_ ?_)
   | (with_reducible refine LeO.bind ?_ (fun _ => ?_))
   | exact ih0 _ _ _ _ _
   | exact cenotaphref02_Add.mono _ _ _ _
   | exact LeO.none _
   | refine LeO.ite ?_ ?_
   | refine LeO.bind ?_ (fun _ => ?_)
def cenotaphref02_Fix.T5 : Bool × List (List Nat × List Nat) := (true, [([], []), ([], []), ([1], [1]), ([], []), ([2, 3], [2, 3]), ([4], [4]), ([5], [5]), ([6], [6]), ([7], [7]), ([8], [8]), ([0, 9], [0, 9]), ([10, 10, 0, 1, 2, 3, 4, 5, 6, 7, 8, 9, 10], [10])])
def cenotaphref02_Fix.B5 : List Nat := [0, 0, 2, 0, 14, 30, 62, 126, 254, 510, 1023, 2047]
theorem cenotaphref02_Fix.tab5 : rtab .any (opsOf Tryz.f31 5) = cenotaphref02_Fix.T5 := by kernel_rfl
theorem cenotaphref02_Fix.bits5 : waitsOk cenotaphref02_Fix.T5.2 cenotaphref02_Fix.B5 = true := by kernel_rfl
theorem cenotaphref02_Fix.calls (k : Nat) (a0_0 : Int) (A0_1 : Option Addr) (c0_1 : Nat) (l0_1 : List Int) (r1 : Int) (r2 : List Int) (w : World) (hr0_1 : Kd.C (Kd.int .i64) w A0_1 l0_1.length l0_1) (hc0_1 : l0_1.length ≤ c0_1) (h : cenotaphref02_Fix.f k a0_0 l0_1 = some (r1, r2)) :
  Calls Tryz.prog 31 #[.agg #[.int .i64 a0_0, .slice A0_1 l0_1.length c0_1]] w fun e w' => ∃ v1_ : Value, e = .returned (.agg #[.int .i64 r1, v1_]) ∧ Kd.R (Kd.int .i64) 3 w' w.heap.size (fun _ => True) v1_ r2 ∧ Below w.heap.size w w' := by
 have hu59 := Tryz.underlying59
 have HR0_1 := aK hr0_1
 have HC0_1 := aK hc0_1
 clear hr0_1 hc0_1
 have HB := aK (Below.refl w.heap.size w)
 have H : (cenotaphref02_Fix.l0 k 0 a0_0 l0_1 (wrap64 (Int.tmod (IntKind.u64.wrap (a0_0)) 40)) ([] : List Int)) = some (r1, r2) := h
 clear h
 have H' := aK H
 clear H
 go_enter Tryz.func31, Tryz.ntmps31
 go_wp2_with (first | ((with_reducible refine gate_dst (N := 1) rfl ?_); refine box_event ?hg (N := 1) ?hd (cs := #[.int .i64 a0_0, .slice A0_1 l0_1.length c0_1]) (t := 59) ?hr ?_; (case hd => rfl); (case hg => rfl); (case hr => first | (go_simp; done) | (go_simp; rfl)); intro gb153 hg w2 hbox hb; have BK153 := aK (hbox); have GW153 := aK (((by rw [hg]; exact (below_size zq31_2)) : w.heap.size ≤ gb153)); have GE153 := aK (((by rw [hg]; exact (below_size zq31_2)) : w.heap.size ≤ gb153)); replace HB := aK (bS zq31_2 hb); clear hb hbox hg) | ((with_reducible refine gate_dst (N := 2) rfl ?_); refine box_event ?hg (N := 2) ?hd (cs := #[.int .i64 0, .slice none 0 0]) (t := 59) ?hr ?_; (case hd => rfl); (case hg => rfl); (case hr => first | (go_simp; done) | (go_simp; rfl)); intro gb154 hg w3 hbox hb; have BK154 := aK (hbox); have GW154 := aK (((by rw [hg]; exact (below_size zq31_1)) : w.heap.size ≤ gb154)); have GE154 := aK (((by rw [hg]; exact (below_size zq31_1)) : w.heap.size ≤ gb154)); replace HB := aK (bS zq31_1 hb); have NB153_154 := aK (((by rw [hg]; exact Nat.ne_of_lt (blk_lt (g := gb153) (o := .cells #[.int .i64 a0_0, .slice A0_1 l0_1.length c0_1] 59 (0, 0)) zq31_3)) : gb153 ≠ gb154)); have NB154_153 := aK (((by rw [hg]; exact Nat.ne_of_gt (blk_lt (g := gb153) (o := .cells #[.int .i64 a0_0, .slice A0_1 l0_1.length c0_1] 59 (0, 0)) zq31_3)) : gb154 ≠ gb153)); replace BK153 := aK (bB (g := gb153) (o := .cells #[.int .i64 a0_0, .slice A0_1 l0_1.length c0_1] 59 (0, 0)) zq31_3 hb); clear hb hbox hg; have hnb4 := NB153_154.out; have hnc4 := NB154_153.out; have hcz5_0 : w3.cell? ⟨gb153, 0, none⟩ = some (.int .i64 a0_0) := (bC BK153.out 0).trans rfl; have hcz5_1 : w3.cell? ⟨gb153, 1, none⟩ = some (.slice A0_1 l0_1.length c0_1) := (bC BK153.out 1).trans rfl; have hfz5_0 := bF_ BK153.out 0; have hfz5_1 := bF_ BK153.out 1) | ((with_reducible refine gate_dst (N := 3) rfl ?_); refine box_event ?hg (N := 3) ?hd (cs := #[.int .i64 0, .slice none 0 0]) (t := 59) ?hr ?_; (case hd => rfl); (case hg => rfl); (case hr => first | (go_simp; done) | (go_simp; rfl)); intro gb155 hg w6 hbox hb; have BK155 := aK (hbox); have GW155 := aK (((by rw [hg]; exact (below_size zq31_0)) : w.heap.size ≤ gb155)); have GE155 := aK (((by rw [hg]; exact (below_size zq31_0)) : w.heap.size ≤ gb155)); replace HB := aK (bS zq31_0 hb); have NB153_155 := aK (((by rw [hg]; exact Nat.ne_of_lt (blk_lt (g := gb153) (o := .cells #[.int .i64 a0_0, .slice A0_1 l0_1.length c0_1] 59 (0, 0)) zq31_3)) : gb153 ≠ gb155)); have NB155_153 := aK (((by rw [hg]; exact Nat.ne_of_gt (blk_lt (g := gb153) (o := .cells #[.int .i64 a0_0, .slice A0_1 l0_1.length c0_1] 59 (0, 0)) zq31_3)) : gb155 ≠ gb153)); replace BK153 := aK (bB (g := gb153) (o := .cells #[.int .i64 a0_0, .slice A0_1 l0_1.length c0_1] 59 (0, 0)) zq31_3 hb); have NB154_155 := aK (((by rw [hg]; exact Nat.ne_of_lt (blk_lt (g := gb154) (o := .cells #[.int .i64 0, .slice none 0 0] 59 (0, 0)) zq31_4)) : gb154 ≠ gb155)); have NB155_154 := aK (((by rw [hg]; exact Nat.ne_of_gt (blk_lt (g := gb154) (o := .cells #[.int .i64 0, .slice none 0 0] 59 (0, 0)) zq31_4)) : gb155 ≠ gb154)); replace BK154 := aK (bB (g := gb154) (o := .cells #[.int .i64 0, .slice none 0 0] 59 (0, 0)) zq31_4 hb); clear hb hbox hg; have hnb7 := NB155_153.out; have hnc7 := NB153_155.out; have hnb8 := NB155_154.out; have hnc8 := NB154_155.out; have hcz9_0 : w6.cell? ⟨gb155, 0, none⟩ = some (.int .i64 0) := (bC BK155.out 0).trans rfl; have hcz9_1 : w6.cell? ⟨gb155, 1, none⟩ = some (.slice none 0 0) := (bC BK155.out 1).trans rfl; have hfz9_0 := bF_ BK155.out 0; have hfz9_1 := bF_ BK155.out 1))
 go_loopg [4] k (fun kq v4 w' => ∃ (x4_1 : Int) (x156000_1 : Int) (x156001_1 : List Int) (u156001 : Value), v4 = .int .i64 x4_1 ∧ Aside0 (cenotaphref02_Fix.l0 kq x4_1 a0_0 l0_1 x156000_1 x156001_1 = some (r1, r2)) ∧ Aside0 (kq ≤ k) ∧ Aside0 (Kd.R (Kd.int .i64) 3 w' w.heap.size (fun _ => True) u156001 x156001_1) ∧ Aside0 (w'.heap[gb153]? = some (.cells #[.int .i64 a0_0, (.slice A0_1 l0_1.length c0_1)] 59 (0, 0))) ∧ Aside0 (w'.heap[gb154]? = some (.cells #[.int .i64 0, (.slice none 0 0)] 59 (0, 0))) ∧ Aside0 (w'.heap[gb155]? = some (.cells #[.int .i64 x156000_1, u156001] 59 (0, 0))) ∧ Aside0 (Below w.heap.size w w'))
 case atStart => exact ⟨(0), (wrap64 (Int.tmod (IntKind.u64.wrap (a0_0)) 40)), (([] : List Int)), (.slice none 0 0), (by first | rfl | (simp; done) | (simp [*]; done)), H', ⟨Nat.le_refl _⟩, ⟨by first | exact Kd.R_nil _ _ _ _ _ | exact Kd.N_nil _ _ _ _ _ | exact Kd.V_nil _ _ _ _ _ | exact Kd.Q_nil _ _ _ _ _ | exact Kd.S_nil _ _ _ _ _⟩, ⟨by (with_reducible repeat (first | refine blk_drewN ?_ _ | refine blk_drew ?_ | refine blk_alloc ?_ _)); refine blk_far ?_ NB153_155.out _; (with_reducible repeat (first | refine blk_drewN ?_ _ | refine blk_drew ?_ | refine blk_alloc ?_ _)); refine blk_far ?_ NB153_155.out _; (with_reducible repeat (first | refine blk_drewN ?_ _ | refine blk_drew ?_ | refine blk_alloc ?_ _)); exact BK153.out⟩, ⟨by (with_reducible repeat (first | refine blk_drewN ?_ _ | refine blk_drew ?_ | refine blk_alloc ?_ _)); refine blk_far ?_ NB154_155.out _; (with_reducible repeat (first | refine blk_drewN ?_ _ | refine blk_drew ?_ | refine blk_alloc ?_ _)); refine blk_far ?_ NB154_155.out _; (with_reducible repeat (first | refine blk_drewN ?_ _ | refine blk_drew ?_ | refine blk_alloc ?_ _)); exact BK154.out⟩, ⟨by (with_reducible repeat (first | refine blk_drewN ?_ _ | refine blk_drew ?_ | refine blk_alloc ?_ _)); refine blk_put (cs := #[.int .i64 (wrap64 (Int.tmod (IntKind.u64.wrap (a0_0)) 40)), .slice none 0 0]) ?_ 1 _ rfl; (with_reducible repeat (first | refine blk_drewN ?_ _ | refine blk_drew ?_ | refine blk_alloc ?_ _)); refine blk_put (cs := #[.int .i64 0, .slice none 0 0]) ?_ 0 _ rfl; (with_reducible repeat (first | refine blk_drewN ?_ _ | refine blk_drew ?_ | refine blk_alloc ?_ _)); exact BK155.out⟩, ⟨by repeat (first | (with_reducible first | exact HB.out | apply bA | apply pB | apply bW | refine below_set ?_ GE153.out | refine below_set ?_ GE154.out | refine below_set ?_ GE155.out) | exact HB.out)⟩⟩
 case round =>
  clear H'
  try clear p2
  try clear c3
  try clear c4
  try clear p6
  try clear c7
  try clear c8
  try clear hcz5_0
  try clear hcz5_1
  try clear hcz9_0
  try clear hcz9_1
  try clear hfz5_0
  try clear hfz5_1
  try clear hfz9_0
  try clear hfz9_1
  obtain ⟨x4_1, x156000_1, x156001_1, u156001, rfl, HA, HK1, HO_156001, BK153, BK154, BK155, HB⟩ := hrel
  cases gk with
  | zero => exact absurd HA.out (by simp [cenotaphref02_Fix.l0])
  | succ k1 =>
   have H := HA.out
   clear HA
   simp only [cenotaphref02_Fix.l0] at H
   by_cases c10 : x4_1 < (l0_1.length : Int)
   ·rw [if_pos c10] at H
    have c10b0 : decide (x4_1 < (l0_1.length : Int)) = true := dT c10
    clear c10
    by_cases c11 : x4_1 < 30
    ·rw [if_pos c11] at H
     have c11b0 : decide (x4_1 < 30) = true := dT c11
     clear c11
     by_cases c12 : 0 ≤ x4_1
     ·rw [if_pos c12] at H
      have c12b0 : decide (0 ≤ x4_1) = true := dT c12
      clear c12
      replace H := bM H
      obtain ⟨⟨t157, t158⟩, A130, H⟩ := H
      replace H : (cenotaphref02_Fix.l0 k1 (wrap64 (x4_1 + 1)) a0_0 l0_1 t157 t158) = some (r1, r2) := H
      have A13 := aK A130
      clear A130
      have H' := aK H
      clear H
      have hnb14 := NB153_154.out
      have hnc14 := NB154_153.out
      have hnb15 := NB153_155.out
      have hnc15 := NB155_153.out
      have hcz16_0 : wr.cell? ⟨gb153, 0, none⟩ = some (.int .i64 a0_0) := (bC BK153.out 0).trans rfl
      have hcz16_1 : wr.cell? ⟨gb153, 1, none⟩ = some (.slice A0_1 l0_1.length c0_1) := (bC BK153.out 1).trans rfl
      have hfz16_0 := bF_ BK153.out 0
      have hfz16_1 := bF_ BK153.out 1
      try go_wp2
      replace HO_156001 := aK (Kd.R_drew HO_156001.out)
      replace BK153 := aK (blk_drew BK153.out)
      replace BK154 := aK (blk_drew BK154.out)
      replace BK155 := aK (blk_drew BK155.out)
      replace HB := aK (bW HB.out)
      have p156 : 0 ≤ (x4_1 : Int) := oD (by first | (with_reducible assumption) | assumption)
      have q156 : x4_1 < (l0_1.length : Int) := oD (by first | (with_reducible assumption) | assumption)
      obtain ⟨ad156, e156, hx156_0⟩ := Kd.at_int HR0_1.out x4_1 p156 q156
      have hw156_0 := hx156_0
      cases e156
      replace hx156_0 := pc_ HB hx156_0
      replace p156 := eT p156
      replace q156 := eT q156
      obtain ⟨Ao18, co18, eo18⟩ := Kd.R_slice HO_156001.out
      (first | subst eo18 | (injection eo18 with f1_ f2_ f3_; have f4_ := f1_.symm; have f5_ := f3_.symm; clear f1_ f2_ f3_; subst f4_; subst f5_))
      refine start_ (n := 12) (S := fun w' => w'.cell? ⟨gb155, 0, none⟩ = some (.int .i64 x156000_1) ∧ w'.cell? ⟨gb155, 1, none⟩ = some (.slice Ao18 x156001_1.length co18) ∧ w'.cell? ⟨gb153, 0, none⟩ = some (.int .i64 a0_0) ∧ w'.cell? ⟨gb153, 1, none⟩ = some (.slice (some ad156) l0_1.length c0_1) ∧ w'.cell? (ad156.add (x4_1).toNat) = some (.int .i64 (rd l0_1 x4_1))) (ds := [11]) #[false, false, false, false, false, false, false, false, false, false, false, false] (by kernel_rfl) rfl rfl ⟨(bC BK155.out 0).trans rfl, (bC BK155.out 1).trans rfl, (bC BK153.out 0).trans rfl, (bC BK153.out 1).trans rfl, (pc_ HB hw156_0)⟩ (fun hHeld => ?_); refine with_tabW cenotaphref02_Fix.tab5 cenotaphref02_Fix.bits5 (fun HT_ HW_ => ?_)
      generalize wr.drew = w17 at HO_156001 BK153 BK154 BK155 HB hx156_0 hHeld ⊢
      refine p_ 1 23 (mk_ 12 0x2) ?_
      refine p_ 3 25 (mk_ 12 0xa) ?_
      refine t_ 0 22 (mk_ 12 0xb) hHeld ?_
      refine t_ 2 24 (mk_ 12 0xf) hHeld ?_
      refine p_ 4 26 (mk_ 12 0x1f) ?_
      refine t_ 5 27 (mk_ 12 0x3f) hHeld ?_
      refine p_ 6 28 (mk_ 12 0x7f) ?_
      refine p_ 7 29 (mk_ 12 0xff) ?_
      refine p_ 8 30 (mk_ 12 0x1ff) ?_
      refine p_ 9 31 (mk_ 12 0x3ff) ?_
      refine one_ (i := 10) (N := some 32) #[true, true, true, true, true, true, true, true, true, true, true, false] rfl rfl (one_of HT_.out (by kernel_rfl)) (by decide) (fun K hK => ?_)
      refine goes_ Tryz.func61 (by kernel_rfl) rfl #[.agg #[.int .i64 x156000_1, .slice Ao18 x156001_1.length co18], .int .i64 (wrap64 (1 + (wrap64 (Int.tmod (IntKind.u64.wrap (rd l0_1 x4_1)) 60))))] (by rfl) rfl rfl (by (try simp only [List.map_toArray, List.map_cons, List.map_nil]); first | done | rfl | (simp only [List.length_drop, List.length_take]; rfl)) ?_
      with_reducible refine (cenotaphref02_Add.calls k1 x156000_1 _ _ x156001_1 (wrap64 (1 + (wrap64 (Int.tmod (IntKind.u64.wrap (rd l0_1 x4_1)) 60)))) t157 t158 _ ?side1 ?side2 A13.out).mono ?_
      (case side1 => repeat (first | exact (Kd.R_reads' HO_156001.out).2.2 | (with_reducible refine Kd.C_alloc ?_ _) | (with_reducible refine Kd.C_drewN ?_ _) | (with_reducible refine Kd.C_drew ?_)))
      (case side2 => exact (Kd.R_reads' HO_156001.out).2.1)
      rintro e w19 ⟨v159, rfl, ho0, hb⟩
      refine ⟨_, rfl, ?_⟩
      have HO160 := aK (Kd.R_lower (Kd.R_new' ho0 (Kd.R_lt (by (with_reducible repeat (first | apply Kd.R_alloc | apply Kd.R_drewN | apply Kd.R_drew)); exact HO_156001.out))) (below_size (by repeat (first | (with_reducible first | exact HB.out | apply bA | apply pB | apply bW | refine below_set ?_ GE153.out | refine below_set ?_ GE154.out | refine below_set ?_ GE155.out) | exact HB.out))))
      replace HO_156001 := aK (Kd.R_elder' (by (with_reducible repeat (first | apply Kd.R_alloc | apply Kd.R_drewN | apply Kd.R_drew)); exact HO_156001.out) (Kd.R_base ho0) hb)
      replace BK153 := aK (bB (g := gb153) (o := .cells #[.int .i64 a0_0, .slice (some ad156) l0_1.length c0_1] 59 (0, 0)) zq31_3 hb)
      replace BK154 := aK (bB (g := gb154) (o := .cells #[.int .i64 0, .slice none 0 0] 59 (0, 0)) zq31_4 hb)
      replace BK155 := aK (bB (g := gb155) (o := .cells #[.int .i64 x156000_1, .slice Ao18 x156001_1.length co18] 59 (0, 0)) (by (with_reducible repeat (first | refine blk_drewN ?_ _ | refine blk_drew ?_ | refine blk_alloc ?_ _)); exact BK155.out) hb)
      replace HB := aK (bS (by repeat (first | (with_reducible first | exact HB.out | apply bA | apply pB | apply bW | refine below_set ?_ GE153.out | refine below_set ?_ GE154.out | refine below_set ?_ GE155.out) | exact HB.out)) hb)
      (try clear hb)
      (try clear hb2)
      (try clear hk)
      (try clear hi)
      (try clear ho0)
      obtain ⟨Ao21, co21, eo21⟩ := Kd.R_slice HO160.out
      (first | subst eo21 | (injection eo21 with f1_ f2_ f3_; have f4_ := f1_.symm; have f5_ := f3_.symm; clear f1_ f2_ f3_; subst f4_; subst f5_))
      refine hK.out _ _ ⟨(bC BK155.out 0).trans rfl, (bC BK155.out 1).trans rfl, (bC BK153.out 0).trans rfl, (bC BK153.out 1).trans rfl, (pc_ HB hw156_0)⟩ (fun hHeld => ?_)
      clear hK K
      refine norm_ (a' := ?_) ?_ ?_
      rotate_left
      ·show Act.put _ (some 32) _ = _
       simp only [Act.put, lA, lB, lC, i64_w, i32_w]
       rfl
      refine last_ (i := 11) (N := none) #[true, true, true, true, true, true, true, true, true, true, true, true] rfl rfl (one_of HT_.out (by kernel_rfl)) (by decide) (fun K hK => ?_)
      have hs20 : w19.cell? ⟨gb155, 0, none⟩ = some (.int .i64 x156000_1) := (bC BK155.out 0).trans rfl
      have hfs20 := bF_ BK155.out 0
      have hns20_0 := NB153_155.out
      have hns20_1 := NB154_155.out
      have hms20_0 := NB155_153.out
      have hms20_1 := NB155_154.out
      have hs22 : w19.cell? ⟨gb155, 1, none⟩ = some (.slice Ao18 x156001_1.length co18) := (bC BK155.out 1).trans rfl
      have hfs22 := bF_ BK155.out 1
      have hns22_0 := NB153_155.out
      have hns22_1 := NB154_155.out
      have hms22_0 := NB155_153.out
      have hms22_1 := NB155_154.out
      refine skip_ (w1 := ?_) (by rfl) rfl ?_ ?_
      rotate_left
      ·go_simp
       rfl
      refine hK.out _ _ ?_
      clear hK K
      refine done_ (done_of HT_.out (by kernel_rfl)) ?_
      try go_wp2
      go_roundg k1
      case measure => have := HK1.out; omega
      case rel => exact ⟨(wrap64 (x4_1 + 1)), (t157), (t158), (.slice Ao21 t158.length co21), (by first | rfl | (simp; done) | (simp [*]; done)), H', ⟨by have := HK1.out; omega⟩, ⟨by (with_reducible repeat (first | apply Kd.R_alloc | apply Kd.R_drewN | apply Kd.R_drew)); exact Kd.R_mono (Kd.R_far (p := ⟨gb155, 1, none⟩) (Kd.R_far (p := ⟨gb155, 0, none⟩) (Kd.R_types HO160.out BK155.out (by decide)) (fun _ hk => hk.2) (.int .i64 t157)) (fun _ hk => hk.2) (.slice Ao21 t158.length co21)) (fun _ hk => trivial)⟩, ⟨by (with_reducible repeat (first | refine blk_drewN ?_ _ | refine blk_drew ?_ | refine blk_alloc ?_ _)); refine blk_far ?_ NB153_155.out _; (with_reducible repeat (first | refine blk_drewN ?_ _ | refine blk_drew ?_ | refine blk_alloc ?_ _)); refine blk_far ?_ NB153_155.out _; (with_reducible repeat (first | refine blk_drewN ?_ _ | refine blk_drew ?_ | refine blk_alloc ?_ _)); exact BK153.out⟩, ⟨by (with_reducible repeat (first | refine blk_drewN ?_ _ | refine blk_drew ?_ | refine blk_alloc ?_ _)); refine blk_far ?_ NB154_155.out _; (with_reducible repeat (first | refine blk_drewN ?_ _ | refine blk_drew ?_ | refine blk_alloc ?_ _)); refine blk_far ?_ NB154_155.out _; (with_reducible repeat (first | refine blk_drewN ?_ _ | refine blk_drew ?_ | refine blk_alloc ?_ _)); exact BK154.out⟩, ⟨by (with_reducible repeat (first | refine blk_drewN ?_ _ | refine blk_drew ?_ | refine blk_alloc ?_ _)); refine blk_put (cs := #[.int .i64 t157, .slice Ao18 x156001_1.length co18]) ?_ 1 _ rfl; (with_reducible repeat (first | refine blk_drewN ?_ _ | refine blk_drew ?_ | refine blk_alloc ?_ _)); refine blk_put (cs := #[.int .i64 x156000_1, .slice Ao18 x156001_1.length co18]) ?_ 0 _ rfl; (with_reducible repeat (first | refine blk_drewN ?_ _ | refine blk_drew ?_ | refine blk_alloc ?_ _)); exact BK155.out⟩, ⟨by repeat (first | (with_reducible first | exact HB.out | apply bA | apply pB | apply bW | refine below_set ?_ GE153.out | refine below_set ?_ GE154.out | refine below_set ?_ GE155.out) | exact HB.out)⟩⟩
     ·rw [if_neg c12] at H
      exact absurd H (by simp)
    ·rw [if_neg c11] at H
     have c11b0 : decide (x4_1 < 30) = false := decide_eq_false c11
     clear c11
     simp only [Option.some.injEq, Prod.mk.injEq] at H
     obtain ⟨rfl, rfl⟩ := H
     have hnb23 := NB153_154.out
     have hnc23 := NB154_153.out
     have hnb24 := NB153_155.out
     have hnc24 := NB155_153.out
     have hcz25_0 : wr.cell? ⟨gb153, 0, none⟩ = some (.int .i64 a0_0) := (bC BK153.out 0).trans rfl
     have hcz25_1 : wr.cell? ⟨gb153, 1, none⟩ = some (.slice A0_1 l0_1.length c0_1) := (bC BK153.out 1).trans rfl
     have hfz25_0 := bF_ BK153.out 0
     have hfz25_1 := bF_ BK153.out 1
     have hnb26 := NB155_154.out
     have hnc26 := NB154_155.out
     have hcz27_0 : wr.cell? ⟨gb155, 0, none⟩ = some (.int .i64 x156000_1) := (bC BK155.out 0).trans rfl
     have hcz27_1 : wr.cell? ⟨gb155, 1, none⟩ = some (u156001) := (bC BK155.out 1).trans rfl
     have hfz27_0 := bF_ BK155.out 0
     have hfz27_1 := bF_ BK155.out 1
     have hcz28_0 : wr.cell? ⟨gb154, 0, none⟩ = some (.int .i64 0) := (bC BK154.out 0).trans rfl
     have hcz28_1 : wr.cell? ⟨gb154, 1, none⟩ = some (.slice none 0 0) := (bC BK154.out 1).trans rfl
     have hfz28_0 := bF_ BK154.out 0
     have hfz28_1 := bF_ BK154.out 1
     obtain ⟨Ao29, co29, eo29⟩ := Kd.R_slice HO_156001.out
     subst eo29
     go_wp2
     refine bodyPost_ret (results_cell_row rfl _ _ gb154 59 #[.int .i64 x156000_1, .slice Ao29 x156001_1.length co29] (0, 0) _ rfl (by (with_reducible repeat (first | refine blk_drewN ?_ _ | refine blk_drew ?_ | refine blk_alloc ?_ _)); refine blk_put (cs := #[.int .i64 x156000_1, .slice none 0 0]) ?_ 1 _ rfl; (with_reducible repeat (first | refine blk_drewN ?_ _ | refine blk_drew ?_ | refine blk_alloc ?_ _)); refine blk_put (cs := #[.int .i64 0, .slice none 0 0]) ?_ 0 _ rfl; (with_reducible repeat (first | refine blk_drewN ?_ _ | refine blk_drew ?_ | refine blk_alloc ?_ _)); exact BK154.out) Tryz.underlying59 rfl (by kernel_rfl)) rfl ?_
     exact ⟨_, by first | rfl | (simp [errW_none, errW_some] <;> rfl) | (simp [*, errW_none, errW_some] <;> rfl), by (with_reducible repeat (first | apply Kd.R_alloc | apply Kd.R_drewN | apply Kd.R_drew)); exact Kd.R_mono (Kd.R_far (p := ⟨gb154, 1, none⟩) (Kd.R_far (p := ⟨gb154, 0, none⟩) (Kd.R_types HO_156001.out BK154.out (by decide)) (fun _ hk => hk.2) (.int .i64 x156000_1)) (fun _ hk => hk.2) (.slice Ao29 x156001_1.length co29)) (fun _ hk => trivial), by repeat (first | (with_reducible first | exact HB.out | apply bA | apply pB | apply bW | refine below_set ?_ GE153.out | refine below_set ?_ GE154.out | refine below_set ?_ GE155.out) | exact HB.out)⟩
   ·rw [if_neg c10] at H
    have c10b0 : decide (x4_1 < (l0_1.length : Int)) = false := decide_eq_false c10
    clear c10
    simp only [Option.some.injEq, Prod.mk.injEq] at H
    obtain ⟨rfl, rfl⟩ := H
    have hnb30 := NB153_154.out
    have hnc30 := NB154_153.out
    have hnb31 := NB153_155.out
    have hnc31 := NB155_153.out
    have hcz32_0 : wr.cell? ⟨gb153, 0, none⟩ = some (.int .i64 a0_0) := (bC BK153.out 0).trans rfl
    have hcz32_1 : wr.cell? ⟨gb153, 1, none⟩ = some (.slice A0_1 l0_1.length c0_1) := (bC BK153.out 1).trans rfl
    have hfz32_0 := bF_ BK153.out 0
    have hfz32_1 := bF_ BK153.out 1
    have hnb33 := NB155_154.out
    have hnc33 := NB154_155.out
    have hcz34_0 : wr.cell? ⟨gb155, 0, none⟩ = some (.int .i64 x156000_1) := (bC BK155.out 0).trans rfl
    have hcz34_1 : wr.cell? ⟨gb155, 1, none⟩ = some (u156001) := (bC BK155.out 1).trans rfl
    have hfz34_0 := bF_ BK155.out 0
    have hfz34_1 := bF_ BK155.out 1
    have hcz35_0 : wr.cell? ⟨gb154, 0, none⟩ = some (.int .i64 0) := (bC BK154.out 0).trans rfl
    have hcz35_1 : wr.cell? ⟨gb154, 1, none⟩ = some (.slice none 0 0) := (bC BK154.out 1).trans rfl
    have hfz35_0 := bF_ BK154.out 0
    have hfz35_1 := bF_ BK154.out 1
    obtain ⟨Ao36, co36, eo36⟩ := Kd.R_slice HO_156001.out
    subst eo36
    go_wp2
    refine bodyPost_ret (results_cell_row rfl _ _ gb154 59 #[.int .i64 x156000_1, .slice Ao36 x156001_1.length co36] (0, 0) _ rfl (by (with_reducible repeat (first | refine blk_drewN ?_ _ | refine blk_drew ?_ | refine blk_alloc ?_ _)); refine blk_put (cs := #[.int .i64 x156000_1, .slice none 0 0]) ?_ 1 _ rfl; (with_reducible repeat (first | refine blk_drewN ?_ _ | refine blk_drew ?_ | refine blk_alloc ?_ _)); refine blk_put (cs := #[.int .i64 0, .slice none 0 0]) ?_ 0 _ rfl; (with_reducible repeat (first | refine blk_drewN ?_ _ | refine blk_drew ?_ | refine blk_alloc ?_ _)); exact BK154.out) Tryz.underlying59 rfl (by kernel_rfl)) rfl ?_
    exact ⟨_, by first | rfl | (simp [errW_none, errW_some] <;> rfl) | (simp [*, errW_none, errW_some] <;> rfl), by (with_reducible repeat (first | apply Kd.R_alloc | apply Kd.R_drewN | apply Kd.R_drew)); exact Kd.R_mono (Kd.R_far (p := ⟨gb154, 1, none⟩) (Kd.R_far (p := ⟨gb154, 0, none⟩) (Kd.R_types HO_156001.out BK154.out (by decide)) (fun _ hk => hk.2) (.int .i64 x156000_1)) (fun _ hk => hk.2) (.slice Ao36 x156001_1.length co36)) (fun _ hk => trivial), by repeat (first | (with_reducible first | exact HB.out | apply bA | apply pB | apply bW | refine below_set ?_ GE153.out | refine below_set ?_ GE154.out | refine below_set ?_ GE155.out) | exact HB.out)⟩
theorem zq5_0 {p_ : Prop} (h_ : p_ := by (try simp only [List.map_toArray, List.map_cons, List.map_nil]); first | done | rfl | (simp only [List.length_drop, List.length_take]; rfl)) : p_ := h_
theorem zq5_1 {p_ : Prop} (h_ : p_ := by repeat (first | (with_reducible first | exact HB.out | apply bA | apply pB | apply bW) | exact HB.out)) : p_ := h_
theorem zq5_2 {p_ : Prop} (h_ : p_ := by first | (with_reducible assumption) | assumption) : p_ := h_
theorem zq5_3 {p_ : Prop} (h_ : p_ := by first | rfl | (simp; done) | (simp [*]; done)) : p_ := h_
mutual
def cenotaphref04_Fix.l0 : Nat → List (S61) → List (S61) → Int → Option ((List (S61)))
 | 0, _, _, _ => none
 | k + 1, x0, x3, x4 => if x4 < (x0.length : Int) then (cenotaphref04_Fix.j1 k x0 x3 x4 (decide (x4 < 10))) else (cenotaphref04_Fix.j1 k x0 x3 x4 false)
def cenotaphref04_Fix.j1 : Nat → List (S61) → List (S61) → Int → Bool → Option ((List (S61)))
 | 0, _, _, _, _ => none
 | k + 1, x0, x3, x4, x12 => if x12 = true then (if 0 ≤ x4 then (if x4 < (x0.length : Int) then ((cenotaphref01_Fix.f k ((rd_T61 x0 x4).f0)).bind fun t162 => ((cenotaphref02_Fix.f k ((rd_T61 x0 x4).f1.f0) ((rd_T61 x0 x4).f1.f1)).bind fun bt164 => ((cenotaphref04_put.f k x3 t162 bt164.1 bt164.2).bind fun t168 => (cenotaphref04_Fix.l0 k x0 t168 (wrap64 (x4 + 1)))))) else (none)) else (none)) else (some x3)
end
def cenotaphref04_Fix.f (k : Nat) (l0 : List (S61)) : Option ((List (S61))) := cenotaphref04_Fix.l0 k l0 ([] : List (S61)) 0
theorem cenotaphref04_Fix.mono_l : ∀ k, (∀ y0 y1 y2, LeO (cenotaphref04_Fix.l0 k y0 y1 y2) (cenotaphref04_Fix.l0 (k + 1) y0 y1 y2)) ∧ (∀ y0 y1 y2 y3, LeO (cenotaphref04_Fix.j1 k y0 y1 y2 y3) (cenotaphref04_Fix.j1 (k + 1) y0 y1 y2 y3))
 | 0 => ⟨fun _ _ _ r h => by simp [cenotaphref04_Fix.l0] at h, fun _ _ _ _ r h => by simp [cenotaphref04_Fix.j1] at h⟩
 | k + 1 => by
  obtain ⟨ih0, ih1⟩ := cenotaphref04_Fix.mono_l k
  refine ⟨?_, ?_⟩
  ·intro y0 y1 y2
   unfold cenotaphref04_Fix.l0
   repeat' first
   | (with_reducible exact ih0 _ _ _)
   | (with_reducible exact ih1 _ _ _ _)
   | (with_reducible exact cenotaphref01_Fix.mono _ _)
   | (with_reducible exact cenotaphref02_Fix.mono _ _ _)
   | (with_reducible exact cenotaphref04_put.mono _ _ _ _ _)
   | (with_reducible exact LeO.refl _)
   | (with_reducible exact LeO.none _)
   | (with_reducible refine LeO.ite ?_ ?_)
   | (with_reducible refine LeO.bind ?_ (fun _ => ?_))
   | exact ih0 _ _ _
   | exact ih1 _ _ _ _
   | exact cenotaphref01_Fix.mono _ _
   | exact cenotaphref02_Fix.mono _ _ _
   | exact cenotaphref04_put.mono _ _ _ _ _
   | exact LeO.none _
   | refine LeO.ite ?_ ?_
   | refine LeO.bind ?_ (fun _ => ?_)
  ·intro y0 y1 y2 y3
   unfold cenotaphref04_Fix.j1
   repeat' first
   | (with_reducible exact ih0 _ _ _)
   | (with_reducible exact ih1 _ _ _ _)
   | (with_reducible exact cenotaphref01_Fix.mono _ _)
   | (with_reducible exact cenotaphref02_Fix.mono _ _ _)
   | (with_reducible exact cenotaphref04_put.mono _ _ _ _ _)
   | (with_reducible exact LeO.refl _)
   | (with_reducible exact LeO.none _)
   | (with_reducible refine LeO.ite ?_ ?_)
   | (with_reducible refine LeO.bind ?_ (fun _ => ?_))
   | exact ih0 _ _ _
   | exact ih1 _ _ _ _
   | exact cenotaphref01_Fix.mono _ _
   | exact cenotaphref02_Fix.mono _ _ _
   | exact cenotaphref04_put.mono _ _ _ _ _
   | exact LeO.none _
   | refine LeO.ite ?_ ?_
   | refine LeO.bind ?_ (fun _ => ?_)
theorem cenotaphref04_Fix.mono : ∀ a0 k, LeO (cenotaphref04_Fix.f k a0) (cenotaphref04_Fix.f (k + 1) a0) := by
 intro a0 k
 obtain ⟨ih0, ih1⟩ := cenotaphref04_Fix.mono_l k
 unfold cenotaphref04_Fix.f
 repeat' first
   | (with_reducible exact ih0 _ _ _)
   | (with_reducible exact ih1 _ _ _ _)
   | (with_reducible exact cenotaphref01_Fix.mono _ _)
   | (with_reducible exact cenotaphref02_Fix.mono _ _ _)
   | (with_reducible exact cenotaphref04_put.mono _ _ _ _ _)
   | (with_reducible exact LeO.refl _)
   | (with_reducible exact LeO.none _)
   | (with_reducible refine LeO.ite ?_ ?_)
   | (with_reducible refine LeO.bind ?_ (fun _ => ?_))
   | exact ih0 _ _ _
   | exact ih1 _ _ _ _
   | exact cenotaphref01_Fix.mono _ _
   | exact cenotaphref02_Fix.mono _ _ _
   | exact cenotaphref04_put.mono _ _ _ _ _
   | exact LeO.none _
   | refine LeO.ite ?_ ?_
   | refine LeO.bind ?_ (fun _ => ?_)
def cenotaphref04_Fix.T5 : Bool × List (List Nat × List Nat) := (true, [([], []), ([], []), ([], []), ([1, 2], [1, 2]), ([3], [3]), ([4], [4]), ([5], [5]), ([], []), ([], []), ([7, 8], [7, 8]), ([9], [9]), ([10], [10]), ([11, 6], [11]), ([0, 6, 12, 12], [0, 6, 12]), ([13, 13, 0, 1, 2, 3, 4, 5, 6, 7, 8, 9, 10, 11, 12, 13], [0, 13])])
def cenotaphref04_Fix.B5 : List Nat := [0, 0, 0, 6, 14, 30, 62, 0, 0, 384, 896, 1920, 4094, 8191, 16383]
theorem cenotaphref04_Fix.tab5 : rtab .any (opsOf Tryz.f5 5) = cenotaphref04_Fix.T5 := by kernel_rfl
theorem cenotaphref04_Fix.bits5 : waitsOk cenotaphref04_Fix.T5.2 cenotaphref04_Fix.B5 = true := by kernel_rfl
theorem cenotaphref04_Fix.calls (k : Nat) (A0 : Option Addr) (c0 : Nat) (l0 : List (S61)) (r : List (S61)) (w : World) (hr0 : Kd.C k61 w A0 l0.length l0) (hc0 : l0.length ≤ c0) (h : cenotaphref04_Fix.f k l0 = some r) :
  Calls Tryz.prog 5 #[.slice A0 l0.length c0] w fun e w' => ∃ v0_ : Value, e = .returned (v0_) ∧ Kd.V k61 61 w' w.heap.size (fun k_ => (w.heap.size ≤ k_)) v0_ r ∧ Below w.heap.size w w' := by
 have hu59 := Tryz.underlying59
 have HR0 := aK hr0
 have HC0 := aK hc0
 clear hr0 hc0
 have HB := aK (Below.refl w.heap.size w)
 have H : (cenotaphref04_Fix.l0 k l0 ([] : List (S61)) 0) = some r := h
 clear h
 have H' := aK H
 clear H
 go_enter Tryz.func5, Tryz.ntmps5
 go_wp2
 go_loopg [3, 4] k (fun kq v3 v4 w' => ∃ (x3_1 : List (S61)) (x4_1 : Int), v4 = .int .i64 x4_1 ∧ Aside0 (cenotaphref04_Fix.l0 kq l0 x3_1 x4_1 = some r) ∧ Aside0 (kq ≤ k) ∧ Aside0 (Kd.V k61 61 w' w.heap.size (fun k_ => (w.heap.size ≤ k_)) v3 x3_1) ∧ Aside0 (Below w.heap.size w w'))
 case atStart => exact ⟨(([] : List (S61))), (0), zq5_3, H', ⟨Nat.le_refl _⟩, ⟨(Kd.V_nil _ _ _ _ _)⟩, ⟨by repeat (first | (with_reducible first | exact HB.out | apply bA | apply pB | apply bW) | exact HB.out)⟩⟩
 case round =>
  clear H'
  obtain ⟨x3_1, x4_1, rfl, HA, HK1, HO_3, HB⟩ := hrel
  cases gk with
  | zero => exact absurd HA.out (by simp [cenotaphref04_Fix.l0])
  | succ k1 =>
   have H := HA.out
   clear HA
   simp only [cenotaphref04_Fix.l0] at H
   have HC2 := aK H
   clear H
   go_upto_region 3 with (fail)
   go_cut [12] (fun v12 wc => ∃ (kq : Nat) (x12_1 : Bool), v12 = .bool x12_1 ∧ Aside0 (cenotaphref04_Fix.j1 kq l0 x3_1 x4_1 x12_1 = some r) ∧ Aside0 (kq ≤ k1) ∧ Aside0 (Kd.V k61 61 wc w.heap.size (fun k_ => (w.heap.size ≤ k_)) u3 x3_1) ∧ Aside0 (Below w.heap.size w wc))
   case first =>
    have H := HC2.out
    clear HC2
    by_cases c3 : x4_1 < (l0.length : Int)
    ·rw [if_pos c3] at H
     have c3b0 : decide (x4_1 < (l0.length : Int)) = true := dT c3
     clear c3
     (first | rw [c3b0] | (simp only [i64_w, i32_w]; rw [c3b0]) | skip)
     have H' := aK H
     clear H
     go_wp2
     go_meet
     case rel => exact ⟨_, (decide (x4_1 < 10)), zq5_3, H', ⟨by have := HK1.out; first | omega | exact Nat.le_refl _⟩, ⟨by (with_reducible repeat (first | apply Kd.V_alloc | apply Kd.V_drewN | apply Kd.V_drew)); exact HO_3.out⟩, ⟨by repeat (first | (with_reducible first | exact HB.out | apply bA | apply pB | apply bW) | exact HB.out)⟩⟩
    ·rw [if_neg c3] at H
     have c3b0 : decide (x4_1 < (l0.length : Int)) = false := decide_eq_false c3
     clear c3
     (first | rw [c3b0] | (simp only [i64_w, i32_w]; rw [c3b0]) | skip)
     have H' := aK H
     clear H
     go_wp2
     go_meet
     case rel => exact ⟨_, (false), zq5_3, H', ⟨by have := HK1.out; first | omega | exact Nat.le_refl _⟩, ⟨by (with_reducible repeat (first | apply Kd.V_alloc | apply Kd.V_drewN | apply Kd.V_drew)); exact HO_3.out⟩, ⟨by repeat (first | (with_reducible first | exact HB.out | apply bA | apply pB | apply bW) | exact HB.out)⟩⟩
   case rest =>
    clear HC2
    try clear p2
    try clear c3
    try clear c3b0
    obtain ⟨kq, x12_1, rfl, HA, HJ1, HO_3, HB⟩ := hcut
    cases kq with
    | zero => exact absurd HA.out (by simp [cenotaphref04_Fix.j1])
    | succ kj1 =>
     have H := HA.out
     clear HA
     simp only [cenotaphref04_Fix.j1] at H
     by_cases c4 : x12_1 = true
     ·subst c4
      have H1 : (if 0 ≤ x4_1 then (if x4_1 < (l0.length : Int) then ((cenotaphref01_Fix.f kj1 ((rd_T61 l0 x4_1).f0)).bind fun t162 => ((cenotaphref02_Fix.f kj1 ((rd_T61 l0 x4_1).f1.f0) ((rd_T61 l0 x4_1).f1.f1)).bind fun bt164 => ((cenotaphref04_put.f kj1 x3_1 t162 bt164.1 bt164.2).bind fun t168 => (cenotaphref04_Fix.l0 kj1 l0 t168 (wrap64 (x4_1 + 1)))))) else (none)) else (none)) = some r := by rw [if_pos rfl] at H; exact H
      clear H
      have H := H1
      clear H1
      by_cases c5 : 0 ≤ x4_1
      ·rw [if_pos c5] at H
       have c5b0 : decide (0 ≤ x4_1) = true := dT c5
       clear c5
       by_cases c6 : x4_1 < (l0.length : Int)
       ·rw [if_pos c6] at H
        have c6b0 : decide (x4_1 < (l0.length : Int)) = true := dT c6
        clear c6
        replace H := bM H
        obtain ⟨t162, A70, H⟩ := H
        have A7 := aK A70
        clear A70
        replace H := bM H
        obtain ⟨⟨t164, t165⟩, A80, H⟩ := H
        have A8 := aK A80
        clear A80
        replace H := bM H
        obtain ⟨t168, A90, H⟩ := H
        have A9 := aK A90
        clear A90
        have H' := aK H
        clear H
        try go_wp2
        replace HO_3 := aK (Kd.V_drew HO_3.out)
        replace HB := aK (bW HB.out)
        have p161 : 0 ≤ (x4_1 : Int) := oD zq5_2
        have q161 : x4_1 < (l0.length : Int) := oD zq5_2
        obtain ⟨ad161, A161_2, c161_2, e161, hx161_0, hx161_1, hx161_2, hl161_2, hi161_2⟩ := at_T61 HR0.out x4_1 p161 q161
        have hw161_2 := hx161_2
        have hw161_1 := hx161_1
        have hw161_0 := hx161_0
        cases e161
        replace hx161_0 := pc_ HB hx161_0
        replace hx161_1 := pc_ HB hx161_1
        replace hx161_2 := pc_ HB hx161_2
        have HR161_2 := aK hi161_2
        have HC161_2 := aK hl161_2
        clear hi161_2 hl161_2
        replace p161 := eT p161
        replace q161 := eT q161
        have p163 : 0 ≤ (x4_1 : Int) := oD zq5_2
        have q163 : x4_1 < (l0.length : Int) := oD zq5_2
        obtain ⟨ad163, A163_2, c163_2, e163, hx163_0, hx163_1, hx163_2, hl163_2, hi163_2⟩ := at_T61 HR0.out x4_1 p163 q163
        have hw163_2 := hx163_2
        have hw163_1 := hx163_1
        have hw163_0 := hx163_0
        obtain rfl : ad161 = ad163 := (by injection e163)
        replace hx163_0 := pc_ HB hx163_0
        replace hx163_1 := pc_ HB hx163_1
        replace hx163_2 := pc_ HB hx163_2
        have HR163_2 := aK hi163_2
        have HC163_2 := aK hl163_2
        clear hi163_2 hl163_2
        replace p163 := eT p163
        replace q163 := eT q163
        have ea_ := sI (hx161_2.symm.trans hx163_2)
        injection ea_ with ea_ en_ ec_
        subst ea_
        subst ec_
        clear en_
        refine start_ (n := 15) (S := fun w' => w'.cell? (ad161.add ((x4_1).toNat * 3)) = some (.string ((rd_T61 l0 x4_1).f0)) ∧ w'.cell? ⟨(ad161.add ((x4_1).toNat * 3)).block, (ad161.add ((x4_1).toNat * 3)).off + 1, none⟩ = some (.int .i64 ((rd_T61 l0 x4_1).f1.f0)) ∧ w'.cell? ⟨(ad161.add ((x4_1).toNat * 3)).block, (ad161.add ((x4_1).toNat * 3)).off + 2, none⟩ = some (.slice A161_2 ((rd_T61 l0 x4_1).f1.f1).length c161_2) ∧ w'.cell? (ad161.add ((x4_1).toNat * 3)) = some (.string ((rd_T61 l0 x4_1).f0)) ∧ w'.cell? ⟨(ad161.add ((x4_1).toNat * 3)).block, (ad161.add ((x4_1).toNat * 3)).off + 1, none⟩ = some (.int .i64 ((rd_T61 l0 x4_1).f1.f0)) ∧ w'.cell? ⟨(ad161.add ((x4_1).toNat * 3)).block, (ad161.add ((x4_1).toNat * 3)).off + 2, none⟩ = some (.slice A161_2 ((rd_T61 l0 x4_1).f1.f1).length c161_2)) (ds := []) #[false, false, false, false, false, false, false, false, false, false, false, false, false, false, false] (by kernel_rfl) rfl rfl ⟨(pc_ HB hw161_0), (pc_ HB hw161_1), (pc_ HB hw161_2), (pc_ HB hw163_0), (pc_ HB hw163_1), (pc_ HB hw163_2)⟩ (fun hHeld => ?_); refine with_tabW cenotaphref04_Fix.tab5 cenotaphref04_Fix.bits5 (fun HT_ HW_ => ?_)
        generalize wc.drew = w10 at HO_3 HB HR161_2 HR163_2 hx161_0 hx161_1 hx161_2 hx163_0 hx163_1 hx163_2 hHeld ⊢
        refine p_ 0 15 (mk_ 15 0x1) ?_
        refine p_ 1 16 (mk_ 15 0x3) ?_
        refine p_ 2 17 (mk_ 15 0x7) ?_
        refine p_ 3 18 (mk_ 15 0xf) ?_
        refine p_ 4 19 (mk_ 15 0x1f) ?_
        refine p_ 7 22 (mk_ 15 0x9f) ?_
        refine p_ 8 23 (mk_ 15 0x19f) ?_
        refine p_ 9 24 (mk_ 15 0x39f) ?_
        refine p_ 10 25 (mk_ 15 0x79f) ?_
        refine t_ 5 20 (mk_ 15 0x7bf) hHeld ?_
        refine t_ 11 26 (mk_ 15 0xfbf) hHeld ?_
        refine one_ (i := 6) (N := some 21) #[true, true, true, true, true, true, true, true, true, true, true, true, false, false, false] rfl rfl (one_of HT_.out (by kernel_rfl)) (by decide) (fun K hK => ?_)
        refine goes_ Tryz.func30 (by kernel_rfl) rfl #[.string ((rd_T61 l0 x4_1).f0)] (by rfl) rfl rfl zq5_0 ?_
        with_reducible refine (cenotaphref01_Fix.calls kj1 ((rd_T61 l0 x4_1).f0) t162 _ A7.out).mono ?_
        rintro e w' ⟨rfl, ⟨nd, rfl⟩⟩
        refine ⟨_, rfl, ?_⟩
        refine hK.out _ _ ⟨(pc_ HB hw161_0), (pc_ HB hw161_1), (pc_ HB hw161_2), (pc_ HB hw163_0), (pc_ HB hw163_1), (pc_ HB hw163_2)⟩ (fun hHeld => ?_)
        clear hK K
        refine norm_ (a' := ?_) ?_ ?_
        rotate_left
        ·show Act.put _ (some 21) _ = _
         simp only [Act.put, lA, lB, lC, i64_w, i32_w]
         rfl
        refine one_ (i := 12) (N := some 27) #[true, true, true, true, true, true, true, true, true, true, true, true, true, false, false] rfl rfl (one_of HT_.out (by kernel_rfl)) (by decide) (fun K hK => ?_)
        refine goes_ Tryz.func31 (by kernel_rfl) rfl #[.agg #[.int .i64 ((rd_T61 l0 x4_1).f1.f0), .slice A161_2 ((rd_T61 l0 x4_1).f1.f1).length c161_2]] (by rfl) rfl rfl zq5_0 ?_
        with_reducible refine (cenotaphref02_Fix.calls kj1 ((rd_T61 l0 x4_1).f1.f0) _ _ ((rd_T61 l0 x4_1).f1.f1) t164 t165 _ ?side1 ?side2 A8.out).mono ?_
        (case side1 => repeat (first | exact (cB HR163_2.out zq5_1) | (with_reducible refine Kd.C_alloc ?_ _) | (with_reducible refine Kd.C_drewN ?_ _) | (with_reducible refine Kd.C_drew ?_)))
        (case side2 => exact HC163_2.out)
        rintro e w11 ⟨v166, rfl, ho0, hb⟩
        refine ⟨_, rfl, ?_⟩
        replace HO_3 := aK (Kd.V_elder' (by (with_reducible repeat (first | apply Kd.V_alloc | apply Kd.V_drewN | apply Kd.V_drew)); exact HO_3.out) (Kd.R_base ho0) hb)
        have HO167 := aK (Kd.R_lower (Kd.R_newM (M := fun k_ => (w.heap.size ≤ k_)) ho0 (below_size zq5_1) (fun k_ h_ => h_)) (below_size zq5_1))
        replace HB := aK (bS zq5_1 hb)
        (try clear hb)
        (try clear hb2)
        (try clear hk)
        (try clear hi)
        (try clear ho0)
        obtain ⟨Ao12, co12, eo12⟩ := Kd.V_slice HO_3.out
        (first | subst eo12 | (injection eo12 with f1_ f2_ f3_; have f4_ := f1_.symm; have f5_ := f3_.symm; clear f1_ f2_ f3_; subst f4_; subst f5_))
        obtain ⟨Ao13, co13, eo13⟩ := Kd.R_slice HO167.out
        (first | subst eo13 | (injection eo13 with f1_ f2_ f3_; have f4_ := f1_.symm; have f5_ := f3_.symm; clear f1_ f2_ f3_; subst f4_; subst f5_))
        refine hK.out _ _ ⟨(pc_ HB hw161_0), (pc_ HB hw161_1), (pc_ HB hw161_2), (pc_ HB hw163_0), (pc_ HB hw163_1), (pc_ HB hw163_2)⟩ (fun hHeld => ?_)
        clear hK K
        refine norm_ (a' := ?_) ?_ ?_
        rotate_left
        ·show Act.put _ (some 27) _ = _
         simp only [Act.put, lA, lB, lC, i64_w, i32_w]
         rfl
        refine one_ (i := 13) (N := some 28) #[true, true, true, true, true, true, true, true, true, true, true, true, true, true, false] rfl rfl (one_of HT_.out (by kernel_rfl)) (by decide) (fun K hK => ?_)
        refine goes_ Tryz.func29 (by kernel_rfl) rfl #[.slice Ao12 x3_1.length co12, .string t162, .agg #[.int .i64 t164, .slice Ao13 t165.length co13]] (by rfl) rfl rfl zq5_0 ?_
        with_reducible refine (cenotaphref04_put.calls kj1 (fun k_ => ((w.heap.size ≤ k_) ∧ some k_ ≠ (.slice Ao13 t165.length co13 : Value).ownBlock)) _ _ x3_1 t162 t164 (fun k_ => some k_ = (.slice Ao13 t165.length co13 : Value).ownBlock) _ _ t165 t168 _ ?side1 ?side2 A9.out).mono ?_
        (case side1 => exact HO_3.out)
        (case side2 => exact Kd.R_V (Kd.R_tight rfl (HO167.out)))
        rintro e w14 ⟨v169, rfl, ho0, hb⟩
        refine ⟨_, rfl, ?_⟩
        replace HO_3 := aK (Kd.V_below (by (with_reducible repeat (first | apply Kd.V_alloc | apply Kd.V_drewN | apply Kd.V_drew)); exact HO_3.out) hb)
        have HO170 := aK (Kd.V_lower (Kd.V_mono (ok' := fun k_ => (w.heap.size ≤ k_)) ho0 (fun k_ hk_ => Or.elim hk_ (fun hs_ => Or.elim hs_ (fun hs_ => hs_.1) (fun hs_ => ((HO167.out).1 k_ hs_.symm).1)) (fun hn_ => (Nat.le_trans (below_size zq5_1) hn_)))) (below_size zq5_1))
        replace HO167 := aK (Kd.R_below (by (with_reducible repeat (first | apply Kd.R_alloc | apply Kd.R_drewN | apply Kd.R_drew)); exact HO167.out) hb)
        replace HB := aK (bS zq5_1 hb)
        (try clear hb)
        (try clear hb2)
        (try clear hk)
        (try clear hi)
        (try clear ho0)
        refine hK.out _ _ ⟨(pc_ HB hw161_0), (pc_ HB hw161_1), (pc_ HB hw161_2), (pc_ HB hw163_0), (pc_ HB hw163_1), (pc_ HB hw163_2)⟩ (fun hHeld => ?_)
        clear hK K
        refine norm_ (a' := ?_) ?_ ?_
        rotate_left
        ·show Act.put _ (some 28) _ = _
         simp only [Act.put, lA, lB, lC, i64_w, i32_w]
         rfl
        refine p_ 14 3 (mk_ 15 0x7fff) ?_
        refine done_ (done_of HT_.out (by kernel_rfl)) ?_
        try go_wp2
        go_roundg kj1
        case measure => have := HK1.out; have := HJ1.out; omega
        case rel => exact ⟨(t168), (wrap64 (x4_1 + 1)), zq5_3, H', ⟨by have := HK1.out; have := HJ1.out; omega⟩, ⟨by (with_reducible repeat (first | apply Kd.V_alloc | apply Kd.V_drewN | apply Kd.V_drew)); exact HO170.out⟩, ⟨by repeat (first | (with_reducible first | exact HB.out | apply bA | apply pB | apply bW) | exact HB.out)⟩⟩
       ·rw [if_neg c6] at H
        exact absurd H (by simp)
      ·rw [if_neg c5] at H
       exact absurd H (by simp)
     ·replace c4 := Bool.eq_false_iff.mpr c4
      subst c4
      have H1 : (some x3_1) = some r := by rw [if_neg (show ¬ (false = true) by decide)] at H; exact H
      clear H
      have H := H1
      clear H1
      obtain rfl := sI H
      go_wp2
      go_ret
      exact ⟨_, by first | rfl | (simp [errW_none, errW_some] <;> rfl) | (simp [*, errW_none, errW_some] <;> rfl), by (with_reducible repeat (first | apply Kd.V_alloc | apply Kd.V_drewN | apply Kd.V_drew)); exact HO_3.out, by repeat (first | (with_reducible first | exact HB.out | apply bA | apply pB | apply bW) | exact HB.out)⟩
theorem zq33_0 {p_ : Prop} (h_ : p_ := by first | (with_reducible assumption) | assumption) : p_ := h_
def cenotaphref01_Has.l0 : Nat → List ByteArray → ByteArray → Int → Option (Bool)
 | 0, _, _, _ => none
 | k + 1, x0, x1, x5 => if x5 < (x0.length : Int) then (if 0 ≤ x5 then (if (rdOf ByteArray.empty x0 x5).toList = x1.toList then (some true) else (cenotaphref01_Has.l0 k x0 x1 (wrap64 (x5 + 1)))) else (none)) else (some false)
def cenotaphref01_Has.f (k : Nat) (l0 : List ByteArray) (a1 : ByteArray) : Option (Bool) := cenotaphref01_Has.l0 k l0 a1 0
theorem cenotaphref01_Has.mono_l : ∀ k, (∀ y0 y1 y2, LeO (cenotaphref01_Has.l0 k y0 y1 y2) (cenotaphref01_Has.l0 (k + 1) y0 y1 y2))
 | 0 => fun _ _ _ r h => by simp [cenotaphref01_Has.l0] at h
 | k + 1 => by
  have ih0 := cenotaphref01_Has.mono_l k
  ·intro y0 y1 y2
   unfold cenotaphref01_Has.l0
   repeat' first
   | (with_reducible exact ih0 _ _ _)
   | (with_reducible exact LeO.refl _)
   | (with_reducible exact LeO.none _)
   | (with_reducible refine LeO.ite ?_ ?_)
   | (with_reducible refine LeO.bind ?_ (fun _ => ?_))
   | exact ih0 _ _ _
   | exact LeO.none _
   | refine LeO.ite ?_ ?_
   | refine LeO.bind ?_ (fun _ => ?_)
theorem cenotaphref01_Has.mono : ∀ a0 a1 k, LeO (cenotaphref01_Has.f k a0 a1) (cenotaphref01_Has.f (k + 1) a0 a1) := by
 intro a0 a1 k
 have ih0 := cenotaphref01_Has.mono_l k
 unfold cenotaphref01_Has.f
 repeat' first
   | (with_reducible exact ih0 _ _ _)
   | (with_reducible exact LeO.refl _)
   | (with_reducible exact LeO.none _)
   | (with_reducible refine LeO.ite ?_ ?_)
   | (with_reducible refine LeO.bind ?_ (fun _ => ?_))
   | exact ih0 _ _ _
   | exact LeO.none _
   | refine LeO.ite ?_ ?_
   | refine LeO.bind ?_ (fun _ => ?_)
theorem cenotaphref01_Has.calls (k : Nat) (A0 : Option Addr) (c0 : Nat) (l0 : List ByteArray) (a1 : ByteArray) (r : Bool) (w : World) (hr0 : Kd.C Kd.string w A0 l0.length l0) (hc0 : l0.length ≤ c0) (h : cenotaphref01_Has.f k l0 a1 = some r) :
  Calls Tryz.prog 33 #[.slice A0 l0.length c0, .string a1] w fun e w' => e = .returned (.bool r) ∧ Drawn0 w w' := by
 have HR0 := aK hr0
 have HC0 := aK hc0
 clear hr0 hc0
 have H : (cenotaphref01_Has.l0 k l0 a1 0) = some r := h
 clear h
 have H' := aK H
 clear H
 go_enter Tryz.func33, Tryz.ntmps33
 go_wp2
 go_loopg [5] k (fun kq v5 w' => ∃ (x5_1 : Int), v5 = .int .i64 x5_1 ∧ Aside0 (cenotaphref01_Has.l0 kq l0 a1 x5_1 = some r) ∧ Aside0 (kq ≤ k) ∧ Drawn0 w w')
 case atStart => exact ⟨(0), (by first | rfl | (simp; done) | (simp [*]; done)), H', ⟨Nat.le_refl _⟩, by repeat (first | exact Drawn0.refl _ | apply Drawn0.step)⟩
 case round =>
  clear H'
  try clear p2
  obtain ⟨x5_1, rfl, HA, HK1, ⟨m1, rfl⟩⟩ := hrel
  cases gk with
  | zero => exact absurd HA.out (by simp [cenotaphref01_Has.l0])
  | succ k1 =>
   have H := HA.out
   clear HA
   simp only [cenotaphref01_Has.l0] at H
   by_cases c3 : x5_1 < (l0.length : Int)
   ·rw [if_pos c3] at H
    have c3b0 : decide (x5_1 < (l0.length : Int)) = true := dT c3
    clear c3
    by_cases c4 : 0 ≤ x5_1
    ·rw [if_pos c4] at H
     have c4b0 : decide (0 ≤ x5_1) = true := dT c4
     clear c4
     by_cases c5 : (rdOf ByteArray.empty l0 x5_1).toList = a1.toList
     ·rw [if_pos c5] at H
      have c5b0 : ((rdOf ByteArray.empty l0 x5_1).toList == a1.toList) = true := beq_iff_eq.mpr c5
      have c5b1 : ((rdOf ByteArray.empty l0 x5_1).toList != a1.toList) = false := bne_eq_false_iff_eq.mpr c5
      clear c5
      obtain rfl := sI H
      have p195 : 0 ≤ (x5_1 : Int) := oD zq33_0
      have q195 : x5_1 < (l0.length : Int) := oD zq33_0
      obtain ⟨ad195, e195, hx195_0⟩ := Kd.at_string HR0.out x5_1 p195 q195
      cases e195
      replace p195 := eT p195
      replace q195 := eT q195
      go_wp2
      go_ret
      exact ⟨by first | rfl | (simp; done) | (simp [*]; done), by repeat (first | exact Drawn0.refl _ | apply Drawn0.step)⟩
     ·rw [if_neg c5] at H
      have c5b0 : ((rdOf ByteArray.empty l0 x5_1).toList == a1.toList) = false := beq_eq_false_iff_ne.mpr c5
      have c5b1 : ((rdOf ByteArray.empty l0 x5_1).toList != a1.toList) = true := bne_iff_ne.mpr c5
      have H' := aK H
      clear H
      have p195 : 0 ≤ (x5_1 : Int) := oD zq33_0
      have q195 : x5_1 < (l0.length : Int) := oD zq33_0
      obtain ⟨ad195, e195, hx195_0⟩ := Kd.at_string HR0.out x5_1 p195 q195
      cases e195
      replace p195 := eT p195
      replace q195 := eT q195
      go_wp2
      go_roundg k1
      case measure => have := HK1.out; omega
      case rel => exact ⟨(wrap64 (x5_1 + 1)), (by first | rfl | (simp; done) | (simp [*]; done)), H', ⟨by have := HK1.out; omega⟩, by repeat (first | exact Drawn0.refl _ | apply Drawn0.step)⟩
    ·rw [if_neg c4] at H
     exact absurd H (by simp)
   ·rw [if_neg c3] at H
    have c3b0 : decide (x5_1 < (l0.length : Int)) = false := decide_eq_false c3
    clear c3
    obtain rfl := sI H
    go_wp2
    go_ret
    exact ⟨by first | rfl | (simp; done) | (simp [*]; done), by repeat (first | exact Drawn0.refl _ | apply Drawn0.step)⟩
end Go.Proofs.YtkfehkaiifjkmaaGreat.P
