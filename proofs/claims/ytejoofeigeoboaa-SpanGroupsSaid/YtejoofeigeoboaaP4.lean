-- Written by a program of this session (wip/pp.py over the kit's printer, with our own texts put in).
import Derived.Test.YtejoofeigeoboaaP0
namespace Go.Proofs.Ytejoofeigeoboaa.P
open Go.RowKit Go.Proofs.YtejoofeigeoboaaW.PrintWords Go.Proofs.YtejoofeigeoboaaW.PrintLast Go.Proofs.YtejoofeigeoboaaW.PrintMore
attribute [local go_sem] max2_int min2_int max_two min_two max_three min_three max_four min_four   -- for this text's walks alone
set_option linter.unusedVariables false
set_option linter.unusedSimpArgs false

/-! ### cenotaphref02_Has: function 22 -/
mutual
def cenotaphref02_Has.j0 : Nat → Int → Bool → Int → List Int → Option (Bool)
  | 0, _, _, _, _ => none
  | k + 1, x1, x13, x195000, x195001 => if x13 = true then (some true) else (cenotaphref02_Has.l0 k x1 0 x195000 x195001)
def cenotaphref02_Has.l0 : Nat → Int → Int → Int → List Int → Option (Bool)
  | 0, _, _, _, _ => none
  | k + 1, x1, x5, x195000, x195001 => if x5 < (x195001.length : Int) then (if 0 ≤ x5 then (if (rd x195001 x5) = x1 then (some true) else (cenotaphref02_Has.l0 k x1 (wrap64 (x5 + 1)) x195000 x195001)) else (none)) else (some false)
end
def cenotaphref02_Has.f (k : Nat) (a0_0 : Int) (l0_1 : List Int) (a1 : Int) : Option (Bool) := if a1 ≥ 1 then (cenotaphref02_Has.j0 k a1 (decide (a1 ≤ a0_0)) a0_0 l0_1) else (cenotaphref02_Has.j0 k a1 false a0_0 l0_1)
theorem cenotaphref02_Has.mono_l : ∀ k, (∀ y0 y1 y2 y3, LeO (cenotaphref02_Has.j0 k y0 y1 y2 y3) (cenotaphref02_Has.j0 (k + 1) y0 y1 y2 y3)) ∧ (∀ y0 y1 y2 y3, LeO (cenotaphref02_Has.l0 k y0 y1 y2 y3) (cenotaphref02_Has.l0 (k + 1) y0 y1 y2 y3))
  | 0 => ⟨fun _ _ _ _ r h => by simp [cenotaphref02_Has.j0] at h, fun _ _ _ _ r h => by simp [cenotaphref02_Has.l0] at h⟩
  | k + 1 => by
    obtain ⟨ih0, ih1⟩ := cenotaphref02_Has.mono_l k
    refine ⟨?_, ?_⟩
    · intro y0 y1 y2 y3
      unfold cenotaphref02_Has.j0
      repeat' first
      | (with_reducible exact ih0 _ _ _ _)
      | (with_reducible exact ih1 _ _ _ _)
      | (with_reducible exact LeO.refl _)
      | (with_reducible exact LeO.none _)
      | (with_reducible refine LeO.ite ?_ ?_)
      | (with_reducible refine LeO.bind ?_ (fun _ => ?_))
      | exact ih0 _ _ _ _
      | exact ih1 _ _ _ _
      | exact LeO.none _
      | refine LeO.ite ?_ ?_
      | refine LeO.bind ?_ (fun _ => ?_)
    · intro y0 y1 y2 y3
      unfold cenotaphref02_Has.l0
      repeat' first
      | (with_reducible exact ih0 _ _ _ _)
      | (with_reducible exact ih1 _ _ _ _)
      | (with_reducible exact LeO.refl _)
      | (with_reducible exact LeO.none _)
      | (with_reducible refine LeO.ite ?_ ?_)
      | (with_reducible refine LeO.bind ?_ (fun _ => ?_))
      | exact ih0 _ _ _ _
      | exact ih1 _ _ _ _
      | exact LeO.none _
      | refine LeO.ite ?_ ?_
      | refine LeO.bind ?_ (fun _ => ?_)
theorem cenotaphref02_Has.mono : ∀ a0 a1 a2 k, LeO (cenotaphref02_Has.f k a0 a1 a2) (cenotaphref02_Has.f (k + 1) a0 a1 a2) := by
  intro a0 a1 a2 k
  obtain ⟨ih0, ih1⟩ := cenotaphref02_Has.mono_l k
  unfold cenotaphref02_Has.f
  repeat' first
      | (with_reducible exact ih0 _ _ _ _)
      | (with_reducible exact ih1 _ _ _ _)
      | (with_reducible exact LeO.refl _)
      | (with_reducible exact LeO.none _)
      | (with_reducible refine LeO.ite ?_ ?_)
      | (with_reducible refine LeO.bind ?_ (fun _ => ?_))
      | exact ih0 _ _ _ _
      | exact ih1 _ _ _ _
      | exact LeO.none _
      | refine LeO.ite ?_ ?_
      | refine LeO.bind ?_ (fun _ => ?_)
set_option maxHeartbeats 8000000 in
set_option maxRecDepth 100000 in
theorem cenotaphref02_Has.calls (k : Nat) (a0_0 : Int) (A0_1 : Option Addr) (c0_1 : Nat) (l0_1 : List Int) (a1 : Int) (r : Bool) (w : World) (hr0_1 : Kd.C (Kd.int .i64) w A0_1 l0_1.length l0_1) (hc0_1 : l0_1.length ≤ c0_1) (h : cenotaphref02_Has.f k a0_0 l0_1 a1 = some r) :
    Calls Try.prog 22 #[.agg #[.int .i64 a0_0, .slice A0_1 l0_1.length c0_1], .int .i64 a1] w fun e w' => e = .returned (.bool r) ∧ Below w.heap.size w w' := by
  have hu30 := Try.underlying30
  have HR0_1 := Aside0.mk hr0_1
  have HC0_1 := Aside0.mk hc0_1
  clear hr0_1 hc0_1
  have HB := Aside0.mk (Below.refl w.heap.size w)
  have H : (if a1 ≥ 1 then (cenotaphref02_Has.j0 k a1 (decide (a1 ≤ a0_0)) a0_0 l0_1) else (cenotaphref02_Has.j0 k a1 false a0_0 l0_1)) = some r := h
  clear h
  have HC3 := Aside0.mk H
  clear H
  go_enter Try.func22, Try.ntmps22
  go_upto_region 1 with (first | ((with_reducible refine gate_dst (N := 2) rfl ?_); refine box_event ?hg (N := 2) ?hd (cs := #[.int .i64 a0_0, .slice A0_1 l0_1.length c0_1]) (t := 30) ?hr ?_; (case hd => rfl); (case hg => rfl); (case hr => first | (go_simp; done) | (go_simp; rfl)); intro gb194 hg w4 hbox hb; have n0_ := Aside0.mk (below_step (by repeat (first | (with_reducible first | exact HB.out | apply below_alloc | apply pw_below_drewN | apply below_drew1) | exact HB.out)) hb); have n1_ := Aside0.mk (hbox); have n2_ := Aside0.mk ((by rw [hg]; exact (below_size (by repeat (first | (with_reducible first | exact HB.out | apply below_alloc | apply pw_below_drewN | apply below_drew1) | exact HB.out))) : w.heap.size ≤ gb194)); have n3_ := Aside0.mk ((by rw [hg]; exact (below_size (by repeat (first | (with_reducible first | exact HB.out | apply below_alloc | apply pw_below_drewN | apply below_drew1) | exact HB.out))) : w.heap.size ≤ gb194)); clear HB; have HB := n0_; have BK194 := n1_; have GW194 := n2_; have GE194 := n3_; clear n0_ n1_ n2_ n3_; clear hb hbox hg))
  (try simp only [Act.put, List.setIfInBounds_toArray, List.set_cons_zero, List.set_cons_succ])
  go_cut [13] (fun v13 wc => ∃ (kq : Nat) (x13_2 : Bool), v13 = .bool x13_2 ∧ Aside0 (cenotaphref02_Has.j0 kq a1 x13_2 a0_0 l0_1 = some r) ∧ Aside0 (kq ≤ k) ∧ Aside0 (wc.heap[gb194]? = some (.cells #[.int .i64 a0_0, (.slice A0_1 l0_1.length c0_1)] 30 (0, 0))) ∧ Aside0 (Below w.heap.size w wc))
  case first =>
    have H := HC3.out
    clear HC3
    by_cases c5 : a1 ≥ 1
    · rw [if_pos c5] at H
      have c5b0 : decide (1 ≤ a1) = true := decide_eq_true c5
      clear c5
      (first | rw [c5b0] | (simp only [i64_w, i32_w]; rw [c5b0]) | skip)
      have H' := Aside0.mk H
      clear H
      have hcz6_0 : w4.cell? ⟨gb194, 0, none⟩ = some (.int .i64 a0_0) := (blk_cell BK194.out 0).trans rfl
      have hcz6_1 : w4.cell? ⟨gb194, 1, none⟩ = some (.slice A0_1 l0_1.length c0_1) := (blk_cell BK194.out 1).trans rfl
      have hfz6_0 := blk_frozen BK194.out 0
      have hfz6_1 := blk_frozen BK194.out 1
      go_wp2
      go_meet
      case rel => exact ⟨_, (decide (a1 ≤ a0_0)), (by first | rfl | (simp; done) | (simp [*]; done)), H', ⟨by first | omega | exact Nat.le_refl _⟩, ⟨by (with_reducible repeat (first | refine blk_drewN ?_ _ | refine blk_drew ?_ | refine blk_alloc ?_ _)); exact BK194.out⟩, ⟨by repeat (first | (with_reducible first | exact HB.out | apply below_alloc | apply pw_below_drewN | apply below_drew1 | refine below_set ?_ GE194.out) | exact HB.out)⟩⟩
    · rw [if_neg c5] at H
      have c5b0 : decide (1 ≤ a1) = false := decide_eq_false c5
      clear c5
      (first | rw [c5b0] | (simp only [i64_w, i32_w]; rw [c5b0]) | skip)
      have H' := Aside0.mk H
      clear H
      go_wp2
      go_meet
      case rel => exact ⟨_, (false), (by first | rfl | (simp; done) | (simp [*]; done)), H', ⟨by first | omega | exact Nat.le_refl _⟩, ⟨by (with_reducible repeat (first | refine blk_drewN ?_ _ | refine blk_drew ?_ | refine blk_alloc ?_ _)); exact BK194.out⟩, ⟨by repeat (first | (with_reducible first | exact HB.out | apply below_alloc | apply pw_below_drewN | apply below_drew1 | refine below_set ?_ GE194.out) | exact HB.out)⟩⟩
  case rest =>
    clear HC3
    try clear c2
    try clear p2
    try clear c5
    try clear c5b0
    try clear hcz6_0
    try clear hcz6_1
    try clear hfz6_0
    try clear hfz6_1
    obtain ⟨kq, x13_2, rfl, HA, HJ2, BK194, HB⟩ := hcut
    cases kq with
    | zero => exact absurd HA.out (by simp [cenotaphref02_Has.j0])
    | succ kj2 =>
      have H := HA.out
      clear HA
      simp only [cenotaphref02_Has.j0] at H
      by_cases c7 : x13_2 = true
      · subst c7
        have H1 : (some true) = some r := by rw [if_pos rfl] at H; exact H
        clear H
        have H := H1
        clear H1
        obtain rfl := Option.some.inj H
        go_wp2
        go_ret
        exact ⟨by first | rfl | (simp [errW_none, errW_some] <;> rfl) | (simp [*, errW_none, errW_some] <;> rfl), by repeat (first | (with_reducible first | exact HB.out | apply below_alloc | apply pw_below_drewN | apply below_drew1 | refine below_set ?_ GE194.out) | exact HB.out)⟩
      · replace c7 := Bool.eq_false_iff.mpr c7
        subst c7
        have H1 : (cenotaphref02_Has.l0 kj2 a1 0 a0_0 l0_1) = some r := by rw [if_neg (show ¬ (false = true) by decide)] at H; exact H
        clear H
        have H := H1
        clear H1
        have H' := Aside0.mk H
        clear H
        go_wp2
        go_loopg [5] kj2 (fun kq v5 w' => ∃ (x5_2 : Int), v5 = .int .i64 x5_2 ∧ Aside0 (cenotaphref02_Has.l0 kq a1 x5_2 a0_0 l0_1 = some r) ∧ Aside0 (kq ≤ kj2) ∧ Aside0 (w'.heap[gb194]? = some (.cells #[.int .i64 a0_0, (.slice A0_1 l0_1.length c0_1)] 30 (0, 0))) ∧ Aside0 (Below w.heap.size w w'))
        case atStart => exact ⟨(0), (by first | rfl | (simp; done) | (simp [*]; done)), H', ⟨Nat.le_refl _⟩, ⟨by (with_reducible repeat (first | refine blk_drewN ?_ _ | refine blk_drew ?_ | refine blk_alloc ?_ _)); exact BK194.out⟩, ⟨by repeat (first | (with_reducible first | exact HB.out | apply below_alloc | apply pw_below_drewN | apply below_drew1 | refine below_set ?_ GE194.out) | exact HB.out)⟩⟩
        case round =>
          clear H'
          try clear c2
          try clear p2
          try clear c5
          try clear c5b0
          try clear c7
          try clear hcz6_0
          try clear hcz6_1
          try clear hfz6_0
          try clear hfz6_1
          try clear p2
          obtain ⟨x5_2, rfl, HA, HK2, BK194, HB⟩ := hrel
          cases gk with
          | zero => exact absurd HA.out (by simp [cenotaphref02_Has.l0])
          | succ k2 =>
            have H := HA.out
            clear HA
            simp only [cenotaphref02_Has.l0] at H
            by_cases c8 : x5_2 < (l0_1.length : Int)
            · rw [if_pos c8] at H
              have c8b0 : decide (x5_2 < (l0_1.length : Int)) = true := decide_eq_true c8
              clear c8
              by_cases c9 : 0 ≤ x5_2
              · rw [if_pos c9] at H
                have c9b0 : decide (0 ≤ x5_2) = true := decide_eq_true c9
                clear c9
                by_cases c10 : (rd l0_1 x5_2) = a1
                · rw [if_pos c10] at H
                  have c10b0 : ((rd l0_1 x5_2) == a1) = true := beq_iff_eq.mpr c10
                  have c10b1 : ((rd l0_1 x5_2) != a1) = false := bne_eq_false_iff_eq.mpr c10
                  clear c10
                  obtain rfl := Option.some.inj H
                  have hcz11_0 : wr.cell? ⟨gb194, 0, none⟩ = some (.int .i64 a0_0) := (blk_cell BK194.out 0).trans rfl
                  have hcz11_1 : wr.cell? ⟨gb194, 1, none⟩ = some (.slice A0_1 l0_1.length c0_1) := (blk_cell BK194.out 1).trans rfl
                  have hfz11_0 := blk_frozen BK194.out 0
                  have hfz11_1 := blk_frozen BK194.out 1
                  have p195 : 0 ≤ (x5_2 : Int) := of_decide_eq_true (by first | (with_reducible assumption) | assumption)
                  have q195 : x5_2 < (l0_1.length : Int) := of_decide_eq_true (by first | (with_reducible assumption) | assumption)
                  obtain ⟨ad195, e195, hx195_0⟩ := Kd.at_int HR0_1.out x5_2 p195 q195
                  cases e195
                  replace hx195_0 := (HB.out.cell (World.block_lt_of_cell? w _ hx195_0)).trans hx195_0
                  replace p195 := eq_true p195
                  replace q195 := eq_true q195
                  go_wp2
                  go_ret
                  exact ⟨by first | rfl | (simp [errW_none, errW_some] <;> rfl) | (simp [*, errW_none, errW_some] <;> rfl), by repeat (first | (with_reducible first | exact HB.out | apply below_alloc | apply pw_below_drewN | apply below_drew1 | refine below_set ?_ GE194.out) | exact HB.out)⟩
                · rw [if_neg c10] at H
                  have c10b0 : ((rd l0_1 x5_2) == a1) = false := beq_eq_false_iff_ne.mpr c10
                  have c10b1 : ((rd l0_1 x5_2) != a1) = true := bne_iff_ne.mpr c10
                  have H' := Aside0.mk H
                  clear H
                  have hcz12_0 : wr.cell? ⟨gb194, 0, none⟩ = some (.int .i64 a0_0) := (blk_cell BK194.out 0).trans rfl
                  have hcz12_1 : wr.cell? ⟨gb194, 1, none⟩ = some (.slice A0_1 l0_1.length c0_1) := (blk_cell BK194.out 1).trans rfl
                  have hfz12_0 := blk_frozen BK194.out 0
                  have hfz12_1 := blk_frozen BK194.out 1
                  have p195 : 0 ≤ (x5_2 : Int) := of_decide_eq_true (by first | (with_reducible assumption) | assumption)
                  have q195 : x5_2 < (l0_1.length : Int) := of_decide_eq_true (by first | (with_reducible assumption) | assumption)
                  obtain ⟨ad195, e195, hx195_0⟩ := Kd.at_int HR0_1.out x5_2 p195 q195
                  cases e195
                  replace hx195_0 := (HB.out.cell (World.block_lt_of_cell? w _ hx195_0)).trans hx195_0
                  replace p195 := eq_true p195
                  replace q195 := eq_true q195
                  go_wp2
                  go_roundg k2
                  case measure => have := HJ2.out; have := HK2.out; omega
                  case rel => exact ⟨(wrap64 (x5_2 + 1)), (by first | rfl | (simp; done) | (simp [*]; done)), H', ⟨by have := HJ2.out; have := HK2.out; omega⟩, ⟨by (with_reducible repeat (first | refine blk_drewN ?_ _ | refine blk_drew ?_ | refine blk_alloc ?_ _)); exact BK194.out⟩, ⟨by repeat (first | (with_reducible first | exact HB.out | apply below_alloc | apply pw_below_drewN | apply below_drew1 | refine below_set ?_ GE194.out) | exact HB.out)⟩⟩
              · rw [if_neg c9] at H
                exact absurd H (by simp)
            · rw [if_neg c8] at H
              have c8b0 : decide (x5_2 < (l0_1.length : Int)) = false := decide_eq_false c8
              clear c8
              obtain rfl := Option.some.inj H
              have hcz13_0 : wr.cell? ⟨gb194, 0, none⟩ = some (.int .i64 a0_0) := (blk_cell BK194.out 0).trans rfl
              have hcz13_1 : wr.cell? ⟨gb194, 1, none⟩ = some (.slice A0_1 l0_1.length c0_1) := (blk_cell BK194.out 1).trans rfl
              have hfz13_0 := blk_frozen BK194.out 0
              have hfz13_1 := blk_frozen BK194.out 1
              go_wp2
              go_ret
              exact ⟨by first | rfl | (simp [errW_none, errW_some] <;> rfl) | (simp [*, errW_none, errW_some] <;> rfl), by repeat (first | (with_reducible first | exact HB.out | apply below_alloc | apply pw_below_drewN | apply below_drew1 | refine below_set ?_ GE194.out) | exact HB.out)⟩

/-! ### cenotaphref02_Add: function 19 -/
theorem zq19_0 {p_ : Prop} (h_ : p_ := by repeat (first | (with_reducible first | exact HB.out | apply below_alloc | apply pw_below_drewN | apply below_drew1 | refine below_set ?_ GE196.out | refine below_set ?_ GE197.out) | exact HB.out)) : p_ := h_
theorem zq19_1 {p_ : Prop} (h_ : p_ := by repeat (first | (with_reducible first | exact HB.out | apply below_alloc | apply pw_below_drewN | apply below_drew1 | refine below_set ?_ GE196.out) | exact HB.out)) : p_ := h_
theorem zq19_2 {p_ : Prop} (h_ : p_ := by repeat (first | (with_reducible first | exact HB.out | apply below_alloc | apply pw_below_drewN | apply below_drew1) | exact HB.out)) : p_ := h_
theorem zq19_3 {p_ : Prop} (h_ : p_ := by (with_reducible repeat (first | refine blk_drewN ?_ _ | refine blk_drew ?_ | refine blk_alloc ?_ _)); exact BK196.out) : p_ := h_
theorem zq19_4 {p_ : Prop} (h_ : p_ := by (with_reducible repeat (first | refine blk_drewN ?_ _ | refine blk_drew ?_ | refine blk_alloc ?_ _)); exact BK197.out) : p_ := h_
theorem zq19_5 {p_ : Prop} (h_ : p_ := by (with_reducible repeat (first | apply Kd.Q_alloc | apply Kd.Q_drewN | apply Kd.Q_drew)); exact HO_5.out) : p_ := h_
theorem zq19_6 {p_ : Prop} (h_ : p_ := by first | (with_reducible assumption) | assumption) : p_ := h_
theorem zq19_7 {p_ : Prop} (h_ : p_ := by first | rfl | (simp; done) | (simp [*]; done)) : p_ := h_
mutual
def cenotaphref02_Add.j0 : Nat → Int → Bool → Int → List Int → Option (Int × List Int)
 | 0, _, _, _, _ => none
 | k + 1, x1, x19, x197000, x197001 => if x19 = true then ((some (([] : List Int) : List Int)).bind fun y199 => (if y199.length + x197001.length < 17592186044416 then (some (x197000, (y199 ++ x197001))) else (none))) else (cenotaphref02_Add.l0 k x1 ([] : List Int) false 0 x197000 x197001)
def cenotaphref02_Add.l0 : Nat → Int → List Int → Bool → Int → Int → List Int → Option (Int × List Int)
 | 0, _, _, _, _, _, _ => none
 | k + 1, x1, x5, x6, x7, x197000, x197001 => if x7 < (x197001.length : Int) then (if x6 = true then (if 0 ≤ x7 then (if x5.length < 17592186044416 then (cenotaphref02_Add.l0 k x1 (x5 ++ [rd x197001 x7]) x6 (wrap64 (x7 + 1)) x197000 x197001) else (none)) else (none)) else (if 0 ≤ x7 then (if (rd x197001 x7) > x1 then (if x5.length < 17592186044416 then ((some (x5 ++ [x1] : List Int)).bind fun y210 => (if y210.length < 17592186044416 then (cenotaphref02_Add.l0 k x1 (y210 ++ [rd x197001 x7]) true (wrap64 (x7 + 1)) x197000 x197001) else (none))) else (none)) else (if x5.length < 17592186044416 then (cenotaphref02_Add.l0 k x1 (x5 ++ [rd x197001 x7]) x6 (wrap64 (x7 + 1)) x197000 x197001) else (none))) else (none))) else (if x6 = true then (cenotaphref02_Add.j2 k x5 x197000 x197001) else (if x5.length < 17592186044416 then (cenotaphref02_Add.j2 k (x5 ++ [x1]) x197000 x197001) else (none)))
def cenotaphref02_Add.j2 : Nat → List Int → Int → List Int → Option (Int × List Int)
 | 0, _, _, _ => none
 | k + 1, x5, x197000, x197001 => cenotaphref02_Add.l1 k x5 x197000
def cenotaphref02_Add.l1 : Nat → List Int → Int → Option (Int × List Int)
 | 0, _, _ => none
 | k + 1, x5, x8 => if (x5.length : Int) > 0 then (if 0 < (x5.length : Int) then (if (rd x5 0) = (wrap64 (x8 + 1)) then (if 1 ≤ (x5.length : Int) then (cenotaphref02_Add.l1 k (x5.drop (1 : Int).toNat) (wrap64 (x8 + 1))) else (none)) else ((some (([] : List Int) : List Int)).bind fun y228 => (if y228.length + x5.length < 17592186044416 then (some (x8, (y228 ++ x5))) else (none)))) else (none)) else ((some (([] : List Int) : List Int)).bind fun y234 => (if y234.length + x5.length < 17592186044416 then (some (x8, (y234 ++ x5))) else (none)))
end
def cenotaphref02_Add.f (k : Nat) (a0_0 : Int) (l0_1 : List Int) (a1 : Int) : Option (Int × List Int) := if a1 < 1 then (cenotaphref02_Add.j0 k a1 true a0_0 l0_1) else (if a1 > 1048576 then (cenotaphref02_Add.j0 k a1 true a0_0 l0_1) else ((cenotaphref02_Has.f k a0_0 l0_1 a1).bind fun t198 => (cenotaphref02_Add.j0 k a1 t198 a0_0 l0_1)))
theorem cenotaphref02_Add.mono_l : ∀ k, (∀ y0 y1 y2 y3, LeO (cenotaphref02_Add.j0 k y0 y1 y2 y3) (cenotaphref02_Add.j0 (k + 1) y0 y1 y2 y3)) ∧ (∀ y0 y1 y2 y3 y4 y5, LeO (cenotaphref02_Add.l0 k y0 y1 y2 y3 y4 y5) (cenotaphref02_Add.l0 (k + 1) y0 y1 y2 y3 y4 y5)) ∧ (∀ y0 y1 y2, LeO (cenotaphref02_Add.j2 k y0 y1 y2) (cenotaphref02_Add.j2 (k + 1) y0 y1 y2)) ∧ (∀ y0 y1, LeO (cenotaphref02_Add.l1 k y0 y1) (cenotaphref02_Add.l1 (k + 1) y0 y1))
 | 0 => ⟨fun _ _ _ _ r h => by simp [cenotaphref02_Add.j0] at h, fun _ _ _ _ _ _ r h => by simp [cenotaphref02_Add.l0] at h, fun _ _ _ r h => by simp [cenotaphref02_Add.j2] at h, fun _ _ r h => by simp [cenotaphref02_Add.l1] at h⟩
 | k + 1 => by
  obtain ⟨ih0, ih1, ih2, ih3⟩ := cenotaphref02_Add.mono_l k
  refine ⟨?_, ?_, ?_, ?_⟩
  ·intro y0 y1 y2 y3
   unfold cenotaphref02_Add.j0
   repeat' first
   | (with_reducible exact ih0 _ _ _ _)
   | (with_reducible exact ih1 _ _ _ _ _ _)
   | (with_reducible exact ih2 _ _ _)
   | (with_reducible exact ih3 _ _)
   | (with_reducible exact cenotaphref02_Has.mono _ _ _ _)
   | (with_reducible exact LeO.refl _)
   | (with_reducible exact LeO.none _)
   | (with_reducible refine LeO.ite ?_ ?_)
   | (with_reducible refine LeO.bind ?_ (fun _ => ?_))
   | exact ih0 _ _ _ _
   | exact ih1 _ _ _ _ _ _
   | exact ih2 _ _ _
   | exact ih3 _ _
   | exact cenotaphref02_Has.mono _ _ _ _
   | exact LeO.none _
   | refine LeO.ite ?_ ?_
   | refine LeO.bind ?_ (fun _ => ?_)
  ·intro y0 y1 y2 y3 y4 y5
   unfold cenotaphref02_Add.l0
   repeat' first
   | (with_reducible exact ih0 _ _ _ _)
   | (with_reducible exact ih1 _ _ _ _ _ _)
   | (with_reducible exact ih2 _ _ _)
   | (with_reducible exact ih3 _ _)
   | (with_reducible exact cenotaphref02_Has.mono _ _ _ _)
   | (with_reducible exact LeO.refl _)
   | (with_reducible exact LeO.none _)
   | (with_reducible refine LeO.ite ?_ ?_)
   | (with_reducible refine LeO.bind ?_ (fun _ => ?_))
   | exact ih0 _ _ _ _
   | exact ih1 _ _ _ _ _ _
   | exact ih2 _ _ _
   | exact ih3 _ _
   | exact cenotaphref02_Has.mono _ _ _ _
   | exact LeO.none _
   | refine LeO.ite ?_ ?_
   | refine LeO.bind ?_ (fun _ => ?_)
  ·intro y0 y1 y2
   unfold cenotaphref02_Add.j2
   repeat' first
   | (with_reducible exact ih0 _ _ _ _)
   | (with_reducible exact ih1 _ _ _ _ _ _)
   | (with_reducible exact ih2 _ _ _)
   | (with_reducible exact ih3 _ _)
   | (with_reducible exact cenotaphref02_Has.mono _ _ _ _)
   | (with_reducible exact LeO.refl _)
   | (with_reducible exact LeO.none _)
   | (with_reducible refine LeO.ite ?_ ?_)
   | (with_reducible refine LeO.bind ?_ (fun _ => ?_))
   | exact ih0 _ _ _ _
   | exact ih1 _ _ _ _ _ _
   | exact ih2 _ _ _
   | exact ih3 _ _
   | exact cenotaphref02_Has.mono _ _ _ _
   | exact LeO.none _
   | refine LeO.ite ?_ ?_
   | refine LeO.bind ?_ (fun _ => ?_)
  ·intro y0 y1
   unfold cenotaphref02_Add.l1
   repeat' first
   | (with_reducible exact ih0 _ _ _ _)
   | (with_reducible exact ih1 _ _ _ _ _ _)
   | (with_reducible exact ih2 _ _ _)
   | (with_reducible exact ih3 _ _)
   | (with_reducible exact cenotaphref02_Has.mono _ _ _ _)
   | (with_reducible exact LeO.refl _)
   | (with_reducible exact LeO.none _)
   | (with_reducible refine LeO.ite ?_ ?_)
   | (with_reducible refine LeO.bind ?_ (fun _ => ?_))
   | exact ih0 _ _ _ _
   | exact ih1 _ _ _ _ _ _
   | exact ih2 _ _ _
   | exact ih3 _ _
   | exact cenotaphref02_Has.mono _ _ _ _
   | exact LeO.none _
   | refine LeO.ite ?_ ?_
   | refine LeO.bind ?_ (fun _ => ?_)
theorem cenotaphref02_Add.mono : ∀ a0 a1 a2 k, LeO (cenotaphref02_Add.f k a0 a1 a2) (cenotaphref02_Add.f (k + 1) a0 a1 a2) := by
 intro a0 a1 a2 k
 obtain ⟨ih0, ih1, ih2, ih3⟩ := cenotaphref02_Add.mono_l k
 unfold cenotaphref02_Add.f
 repeat' first
   | (with_reducible exact ih0 _ _ _ _)
   | (with_reducible exact ih1 _ _ _ _ _ _)
   | (with_reducible exact ih2 _ _ _)
   | (with_reducible exact ih3 _ _)
   | (with_reducible exact cenotaphref02_Has.mono _ _ _ _)
   | (with_reducible exact LeO.refl _)
   | (with_reducible exact LeO.none _)
   | (with_reducible refine LeO.ite ?_ ?_)
   | (with_reducible refine LeO.bind ?_ (fun _ => ?_))
   | exact ih0 _ _ _ _
   | exact ih1 _ _ _ _ _ _
   | exact ih2 _ _ _
   | exact ih3 _ _
   | exact cenotaphref02_Has.mono _ _ _ _
   | exact LeO.none _
   | refine LeO.ite ?_ ?_
   | refine LeO.bind ?_ (fun _ => ?_)
def cenotaphref02_Add.T2 : Bool × List (List Nat × List Nat) := (true, [([], []), ([0], [0]), ([], []), ([], []), ([3], [3]), ([2, 4], [2, 4]), ([1, 5], [1, 5]), ([6, 5, 0, 1, 2, 3, 4, 5, 6], [6])])
def cenotaphref02_Add.B2 : List Nat := [0, 1, 0, 0, 8, 28, 63, 127]
theorem cenotaphref02_Add.tab2 : rtab .any (opsOf Try.f19 2) = cenotaphref02_Add.T2 := by kernel_rfl
theorem cenotaphref02_Add.bits2 : waitsOk cenotaphref02_Add.T2.2 cenotaphref02_Add.B2 = true := by kernel_rfl
set_option maxHeartbeats 8000000 in
set_option maxRecDepth 100000 in
theorem cenotaphref02_Add.calls (k : Nat) (a0_0 : Int) (A0_1 : Option Addr) (c0_1 : Nat) (l0_1 : List Int) (a1 : Int) (r1 : Int) (r2 : List Int) (w : World) (hr0_1 : Kd.C (Kd.int .i64) w A0_1 l0_1.length l0_1) (hc0_1 : l0_1.length ≤ c0_1) (h : cenotaphref02_Add.f k a0_0 l0_1 a1 = some (r1, r2)) :
  Calls Try.prog 19 #[.agg #[.int .i64 a0_0, .slice A0_1 l0_1.length c0_1], .int .i64 a1] w fun e w' => ∃ v1_ : Value, e = .returned (.agg #[.int .i64 r1, v1_]) ∧ Kd.R (Kd.int .i64) 3 w' w.heap.size (fun _ => True) v1_ r2 ∧ Below w.heap.size w w' := by
 have hu30 := Try.underlying30
 have HR0_1 := Aside0.mk hr0_1
 have HC0_1 := Aside0.mk hc0_1
 clear hr0_1 hc0_1
 have HB := Aside0.mk (Below.refl w.heap.size w)
 have H : (if a1 < 1 then (cenotaphref02_Add.j0 k a1 true a0_0 l0_1) else (if a1 > 1048576 then (cenotaphref02_Add.j0 k a1 true a0_0 l0_1) else ((cenotaphref02_Has.f k a0_0 l0_1 a1).bind fun t198 => (cenotaphref02_Add.j0 k a1 t198 a0_0 l0_1)))) = some (r1, r2) := h
 clear h
 have HC3 := Aside0.mk H
 clear H
 go_enter Try.func19, Try.ntmps19
 go_upto_region 1 with (first | ((with_reducible refine gate_dst (N := 2) rfl ?_); refine box_event ?hg (N := 2) ?hd (cs := #[.int .i64 a0_0, .slice A0_1 l0_1.length c0_1]) (t := 30) ?hr ?_; (case hd => rfl); (case hg => rfl); (case hr => first | (go_simp; done) | (go_simp; rfl)); intro gb196 hg w4 hbox hb; have n0_ := Aside0.mk (below_step zq19_2 hb); have n1_ := Aside0.mk (hbox); have n2_ := Aside0.mk (((by rw [hg]; exact (below_size zq19_2)) : w.heap.size ≤ gb196)); have n3_ := Aside0.mk (((by rw [hg]; exact (below_size zq19_2)) : w.heap.size ≤ gb196)); clear HB; have HB := n0_; have BK196 := n1_; have GW196 := n2_; have GE196 := n3_; clear n0_ n1_ n2_ n3_; clear hb hbox hg) | ((with_reducible refine gate_dst (N := 4) rfl ?_); refine box_event ?hg (N := 4) ?hd (cs := #[.int .i64 0, .slice none 0 0]) (t := 30) ?hr ?_; (case hd => rfl); (case hg => rfl); (case hr => first | (go_simp; done) | (go_simp; rfl)); intro gb197 hg w5 hbox hb; have n0_ := Aside0.mk (blk_below (g := gb196) (o := .cells #[.int .i64 a0_0, .slice A0_1 l0_1.length c0_1] 30 (0, 0)) zq19_3 hb); have n1_ := Aside0.mk (below_step zq19_1 hb); have n2_ := Aside0.mk (hbox); have n3_ := Aside0.mk (((by rw [hg]; exact (below_size zq19_1)) : w.heap.size ≤ gb197)); have n4_ := Aside0.mk (((by rw [hg]; exact (below_size zq19_1)) : w.heap.size ≤ gb197)); have n5_ := Aside0.mk (((by rw [hg]; exact Nat.ne_of_lt (blk_lt (g := gb196) (o := .cells #[.int .i64 a0_0, .slice A0_1 l0_1.length c0_1] 30 (0, 0)) zq19_3)) : gb196 ≠ gb197)); have n6_ := Aside0.mk (((by rw [hg]; exact Nat.ne_of_gt (blk_lt (g := gb196) (o := .cells #[.int .i64 a0_0, .slice A0_1 l0_1.length c0_1] 30 (0, 0)) zq19_3)) : gb197 ≠ gb196)); clear BK196; clear HB; have BK196 := n0_; have HB := n1_; have BK197 := n2_; have GW197 := n3_; have GE197 := n4_; have NB196_197 := n5_; have NB197_196 := n6_; clear n0_ n1_ n2_ n3_ n4_ n5_ n6_; clear hb hbox hg))
 (try simp only [Act.put, List.setIfInBounds_toArray, List.set_cons_zero, List.set_cons_succ])
 go_cut [19] (fun v19 wc => ∃ (kq : Nat) (x19_2 : Bool), v19 = .bool x19_2 ∧ Aside0 (cenotaphref02_Add.j0 kq a1 x19_2 a0_0 l0_1 = some (r1, r2)) ∧ Aside0 (kq ≤ k) ∧ Aside0 (wc.heap[gb196]? = some (.cells #[.int .i64 a0_0, (.slice A0_1 l0_1.length c0_1)] 30 (0, 0))) ∧ Aside0 (wc.heap[gb197]? = some (.cells #[.int .i64 0, (.slice none 0 0)] 30 (0, 0))) ∧ Aside0 (Below w.heap.size w wc))
 case first =>
  have H := HC3.out
  clear HC3
  by_cases c6 : a1 < 1
  ·rw [if_pos c6] at H
   have c6b0 : decide (a1 < 1) = true := decide_eq_true c6
   clear c6
   (first | rw [c6b0] | (simp only [i64_w, i32_w]; rw [c6b0]) | skip)
   have H' := Aside0.mk H
   clear H
   go_wp2
   go_meet
   case rel => exact ⟨_, (true), zq19_7, H', ⟨by first | omega | exact Nat.le_refl _⟩, ⟨by (with_reducible repeat (first | refine blk_drewN ?_ _ | refine blk_drew ?_ | refine blk_alloc ?_ _)); exact BK196.out⟩, ⟨by (with_reducible repeat (first | refine blk_drewN ?_ _ | refine blk_drew ?_ | refine blk_alloc ?_ _)); exact BK197.out⟩, ⟨by repeat (first | (with_reducible first | exact HB.out | apply below_alloc | apply pw_below_drewN | apply below_drew1 | refine below_set ?_ GE196.out | refine below_set ?_ GE197.out) | exact HB.out)⟩⟩
  ·rw [if_neg c6] at H
   have c6b0 : decide (a1 < 1) = false := decide_eq_false c6
   clear c6
   (first | rw [c6b0] | (simp only [i64_w, i32_w]; rw [c6b0]) | skip)
   by_cases c7 : a1 > 1048576
   ·rw [if_pos c7] at H
    have c7b0 : decide (1048576 < a1) = true := decide_eq_true c7
    clear c7
    have H' := Aside0.mk H
    clear H
    go_wp2
    go_meet
    case rel => exact ⟨_, (true), zq19_7, H', ⟨by first | omega | exact Nat.le_refl _⟩, ⟨by (with_reducible repeat (first | refine blk_drewN ?_ _ | refine blk_drew ?_ | refine blk_alloc ?_ _)); exact BK196.out⟩, ⟨by (with_reducible repeat (first | refine blk_drewN ?_ _ | refine blk_drew ?_ | refine blk_alloc ?_ _)); exact BK197.out⟩, ⟨by repeat (first | (with_reducible first | exact HB.out | apply below_alloc | apply pw_below_drewN | apply below_drew1 | refine below_set ?_ GE196.out | refine below_set ?_ GE197.out) | exact HB.out)⟩⟩
   ·rw [if_neg c7] at H
    have c7b0 : decide (1048576 < a1) = false := decide_eq_false c7
    clear c7
    replace H := Option.bind_eq_some_iff.mp H
    obtain ⟨t198, A80, H⟩ := H
    replace H : (cenotaphref02_Add.j0 k a1 t198 a0_0 l0_1) = some (r1, r2) := H
    have A8 := Aside0.mk A80
    clear A80
    have H' := Aside0.mk H
    clear H
    have hnb9 := NB196_197.out
    have hnc9 := NB197_196.out
    have hcz10_0 : w5.cell? ⟨gb196, 0, none⟩ = some (.int .i64 a0_0) := (blk_cell BK196.out 0).trans rfl
    have hcz10_1 : w5.cell? ⟨gb196, 1, none⟩ = some (.slice A0_1 l0_1.length c0_1) := (blk_cell BK196.out 1).trans rfl
    have hfz10_0 := blk_frozen BK196.out 0
    have hfz10_1 := blk_frozen BK196.out 1
    go_wp2_with (first | (go_at_call 22; (with_reducible refine (cenotaphref02_Has.calls k a0_0 _ _ l0_1 a1 t198 _ ?side1 ?side2 A8.out).mono ?_); (case side1 => repeat (first | exact (Kd.C_below HR0_1.out HB.out) | (with_reducible refine Kd.C_alloc ?_ _) | (with_reducible refine Kd.C_drewN ?_ _) | (with_reducible refine Kd.C_drew ?_))); (case side2 => exact HC0_1.out); rintro e w11 ⟨rfl, hb⟩; have n0_ := Aside0.mk (blk_below (g := gb196) (o := .cells #[.int .i64 a0_0, .slice A0_1 l0_1.length c0_1] 30 (0, 0)) zq19_3 hb); have n1_ := Aside0.mk (blk_below (g := gb197) (o := .cells #[.int .i64 0, .slice none 0 0] 30 (0, 0)) zq19_4 hb); have n2_ := Aside0.mk (below_step zq19_0 hb); clear BK196; clear BK197; clear HB; have BK196 := n0_; have BK197 := n1_; have HB := n2_; clear n0_ n1_ n2_; (try clear hb); (try clear hb2); (try clear hk); (try clear hi)))
    go_meet
    case rel => exact ⟨_, (t198), zq19_7, H', ⟨by first | omega | exact Nat.le_refl _⟩, ⟨by (with_reducible repeat (first | refine blk_drewN ?_ _ | refine blk_drew ?_ | refine blk_alloc ?_ _)); exact BK196.out⟩, ⟨by (with_reducible repeat (first | refine blk_drewN ?_ _ | refine blk_drew ?_ | refine blk_alloc ?_ _)); exact BK197.out⟩, ⟨by repeat (first | (with_reducible first | exact HB.out | apply below_alloc | apply pw_below_drewN | apply below_drew1 | refine below_set ?_ GE196.out | refine below_set ?_ GE197.out) | exact HB.out)⟩⟩
 case rest =>
  clear HC3
  try clear c1
  try clear p2
  try clear c6
  try clear c6b0
  try clear c7
  try clear c7b0
  try clear c9
  try clear hcz10_0
  try clear hcz10_1
  try clear hfz10_0
  try clear hfz10_1
  obtain ⟨kq, x19_2, rfl, HA, HJ2, BK196, BK197, HB⟩ := hcut
  cases kq with
  | zero => exact absurd HA.out (by simp [cenotaphref02_Add.j0])
  | succ kj2 =>
   have H := HA.out
   clear HA
   simp only [cenotaphref02_Add.j0] at H
   by_cases c12 : x19_2 = true
   ·subst c12
    have H1 : ((some (([] : List Int) : List Int)).bind fun y199 => (if y199.length + l0_1.length < 17592186044416 then (some (a0_0, (y199 ++ l0_1))) else (none))) = some (r1, r2) := by rw [if_pos rfl] at H; exact H
    clear H
    have H := H1
    clear H1
    obtain ⟨y199, hy199⟩ : ∃ y_ : List Int, y_ = (([] : List Int)) := ⟨_, rfl⟩
    replace H : (if y199.length + l0_1.length < 17592186044416 then (some (a0_0, (y199 ++ l0_1))) else (none)) = some (r1, r2) := by first | (rw [hy199]; with_reducible exact H) | (have H2_ := (Option.bind_some _ _).symm.trans H; rw [hy199]; with_reducible exact H2_) | (have H2_ := (Option.bind_some _ _).symm.trans H; with_reducible exact H2_) | with_reducible exact H | (rw [hy199]; exact H) | exact H
    have Ny199 := Aside0.mk hy199
    clear hy199
    by_cases c13 : y199.length + l0_1.length < 17592186044416
    ·rw [if_pos c13] at H
     have LMc13 := Aside0.mk c13
     clear c13
     obtain ⟨y202, hy202⟩ : ∃ y_ : List Int, y_ = (y199 ++ l0_1) := ⟨_, rfl⟩
     replace H : (some (a0_0, y202)) = some (r1, r2) := by first | (rw [hy202]; with_reducible exact H) | (have H2_ := (Option.bind_some _ _).symm.trans H; rw [hy202]; with_reducible exact H2_) | (have H2_ := (Option.bind_some _ _).symm.trans H; with_reducible exact H2_) | with_reducible exact H | (rw [hy202]; exact H) | exact H
     have Ny202 := Aside0.mk hy202
     clear hy202
     simp only [Option.some.injEq, Prod.mk.injEq] at H
     obtain ⟨rfl, rfl⟩ := H
     try go_wp2
     replace BK196 := Aside0.mk (blk_drew BK196.out)
     replace BK197 := Aside0.mk (blk_drew BK197.out)
     replace HB := Aside0.mk (below_drew1 HB.out)
     refine start_ (n := 8) (S := fun w' => w'.cell? ⟨gb196, 0, none⟩ = some (.int .i64 a0_0) ∧ w'.cell? ⟨gb196, 1, none⟩ = some (.slice A0_1 l0_1.length c0_1)) (ds := []) #[false, false, false, false, false, false, false, false] (by kernel_rfl) rfl rfl ⟨(blk_cell BK196.out 0).trans rfl, (blk_cell BK196.out 1).trans rfl⟩ (fun hHeld => ?_); refine with_tabW cenotaphref02_Add.tab2 cenotaphref02_Add.bits2 (fun HT_ HW_ => ?_)
     generalize wc.drew = w14 at BK196 BK197 HB hHeld ⊢
     refine pure_ (i := 0) (N := some 20) (v := ?_) (a' := ?_) #[true, false, false, false, false, false, false, false] rfl rfl (any_of HT_.out (by kernel_rfl)) (fun _ _ _ h => h) (Or.inl ⟨by rfl, ?_⟩) ?_ ?_
     rotate_left
     ·intro w'
      go_simp
      with_reducible rfl
     rotate_left
     ·simp only [Act.put, List.setIfInBounds_toArray, List.set_cons_zero, List.set_cons_succ, i64_w, i32_w]
      rfl
     refine pure_ (i := 3) (N := some 23) (v := ?_) (a' := ?_) #[true, false, false, true, false, false, false, false] rfl rfl (any_of HT_.out (by kernel_rfl)) (fun _ _ _ h => h) (Or.inl ⟨by rfl, ?_⟩) ?_ ?_
     rotate_left
     ·intro w'
      go_simp
      with_reducible rfl
     rotate_left
     ·simp only [Act.put, List.setIfInBounds_toArray, List.set_cons_zero, List.set_cons_succ, i64_w, i32_w]
      rfl
     refine take_ (i := 1) (N := some 21) (v := ?_) (a' := ?_) #[true, true, false, true, false, false, false, false] rfl rfl (take_ofW HT_.out HW_.out (by kernel_rfl)) (fun _ _ _ h => h) (Or.inl ⟨by rfl, ?_⟩) hHeld ?_ ?_
     rotate_left
     ·rintro w' ⟨s0, s1⟩
      go_simp
      with_reducible rfl
     rotate_left
     ·simp only [Act.put, List.setIfInBounds_toArray, List.set_cons_zero, List.set_cons_succ, i64_w, i32_w]
      rfl
     refine take_ (i := 4) (N := some 24) (v := ?_) (a' := ?_) #[true, true, false, true, true, false, false, false] rfl rfl (take_ofW HT_.out HW_.out (by kernel_rfl)) (fun _ _ _ h => h) (Or.inl ⟨by rfl, ?_⟩) hHeld ?_ ?_
     rotate_left
     ·rintro w' ⟨s0, s1⟩
      go_simp
      with_reducible rfl
     rotate_left
     ·simp only [Act.put, List.setIfInBounds_toArray, List.set_cons_zero, List.set_cons_succ, i64_w, i32_w]
      rfl
     refine one_ (i := 2) (N := some 22) #[true, true, true, true, true, false, false, false] rfl rfl (one_of HT_.out (by kernel_rfl)) (by decide) (fun K hK => ?_)
     refine Kd.R_lit_step (Kd.int .i64) _ 3 ?hg (N := 22) ?hd (xs := ([] : List Int)) (inner := []) (ok := fun _ => True) (okp := fun _ => True) ?hr ?hp (fun _ hk => hk) trivial (Below.refl _ _) (Nat.le_refl _) (by simp) ?_; (case hd => rfl); (case hg => rfl); (case hr => first | (go_simp; done) | (go_simp; rfl)); (case hp => exact (Reps.none _ _))
     intro v200 w15 ho16 hb hg_ hnew_
     clear hg_ hnew_
     (first | rw [← Ny199.out] at ho16 | (simp only [Int.reduceToNat] at ho16; rw [← Ny199.out] at ho16))
     have HO201 := Aside0.mk (Kd.R_lower ho16 (below_size zq19_0))
     replace BK196 := Aside0.mk (blk_below (g := gb196) (o := .cells #[.int .i64 a0_0, .slice A0_1 l0_1.length c0_1] 30 (0, 0)) zq19_3 hb)
     replace BK197 := Aside0.mk (blk_below (g := gb197) (o := .cells #[.int .i64 0, .slice none 0 0] 30 (0, 0)) zq19_4 hb)
     replace HB := Aside0.mk (below_step zq19_0 hb)
     clear hb ho16
     refine hK.out _ _ ⟨(blk_cell BK196.out 0).trans rfl, (blk_cell BK196.out 1).trans rfl⟩ (fun hHeld => ?_)
     clear hK K
     refine norm_ (a' := ?_) ?_ ?_
     rotate_left
     ·show Act.put _ (some 22) _ = _
      simp only [Act.put, List.setIfInBounds_toArray, List.set_cons_zero, List.set_cons_succ, i64_w, i32_w]
      rfl
     refine one_ (i := 5) (N := some 25) #[true, true, true, true, true, true, false, false] rfl rfl (one_of HT_.out (by kernel_rfl)) (by decide) (fun K hK => ?_)
     refine Kd.R_append_rows_step (Kd.int .i64) (w0 := w) w.heap.size (by rfl) (.tmp 22) (.tmp 24) 22 3 (.int .i64 0) 8 rfl Try.underlying22 info3 rfl (by decide) (by omega) v200 y199 l0_1 _ _ _ (fun _ => True) (fun _ => False) rfl rfl ?aO ?aR (fun _ _ h => h) (fun _ h => h.elim) ?aF ?aB ?aS ?aL ?_
     (case aR => repeat (first | exact (Kd.C_below HR0_1.out HB.out) | (with_reducible refine Kd.C_alloc ?_ _) | (with_reducible refine Kd.C_drewN ?_ _) | (with_reducible refine Kd.C_drew ?_)))
     (case aB => exact zq19_0)
     (case aF => exact (fun _ _ => trivial))
     (case aO => exact (by (with_reducible repeat (first | apply Kd.R_alloc | apply Kd.R_drewN | apply Kd.R_drew)); exact HO201.out))
     (case aS => exact (below_size zq19_0))
     (case aL => have := LMc13.out; omega)
     intro v203 w17 ho hb hg hat
     rw [← Ny202.out] at ho
     replace BK196 := Aside0.mk (blk_grown (g := gb196) (o := .cells #[.int .i64 a0_0, .slice A0_1 l0_1.length c0_1] 30 (0, 0)) zq19_3 hg (Kd.R_ne HO201.out BK196.out (by decide)))
     replace BK197 := Aside0.mk (blk_grown (g := gb197) (o := .cells #[.int .i64 0, .slice none 0 0] 30 (0, 0)) zq19_4 hg (Kd.R_ne HO201.out BK197.out (by decide)))
     replace HB := Aside0.mk (hb)
     have HO204 := Aside0.mk (ho)
     clear HO201
     clear ho hb hg hat
     obtain ⟨Ao18, co18, eo18⟩ := Kd.R_slice HO204.out
     (first | subst eo18 | (injection eo18 with f1_ f2_ f3_; have f4_ := f1_.symm; have f5_ := f3_.symm; clear f1_ f2_ f3_; subst f4_; subst f5_))
     refine hK.out _ _ ⟨(blk_cell BK196.out 0).trans rfl, (blk_cell BK196.out 1).trans rfl⟩ (fun hHeld => ?_)
     clear hK K
     refine norm_ (a' := ?_) ?_ ?_
     rotate_left
     ·show Act.put _ (some 25) _ = _
      simp only [Act.put, List.setIfInBounds_toArray, List.set_cons_zero, List.set_cons_succ, i64_w, i32_w]
      rfl
     refine pure_ (i := 6) (N := some 26) (v := ?_) (a' := ?_) #[true, true, true, true, true, true, true, false] rfl rfl (any_of HT_.out (by kernel_rfl)) (fun _ _ _ h => h) (Or.inl ⟨by rfl, ?_⟩) ?_ ?_
     rotate_left
     ·intro w'
      go_simp
      with_reducible rfl
     rotate_left
     ·simp only [Act.put, List.setIfInBounds_toArray, List.set_cons_zero, List.set_cons_succ, i64_w, i32_w]
      rfl
     refine one_ (i := 7) (N := none) #[true, true, true, true, true, true, true, true] rfl rfl (one_of HT_.out (by kernel_rfl)) (by decide) (fun K hK => ?_)
     have hs19 : w17.cell? ⟨gb197, 0, none⟩ = some (.int .i64 0) := (blk_cell BK197.out 0).trans rfl
     have hfs19 := blk_frozen BK197.out 0
     have hns19_0 := NB196_197.out
     have hms19_0 := NB197_196.out
     have hs20 : w17.cell? ⟨gb197, 1, none⟩ = some (.slice none 0 0) := (blk_cell BK197.out 1).trans rfl
     have hfs20 := blk_frozen BK197.out 1
     have hns20_0 := NB196_197.out
     have hms20_0 := NB197_196.out
     refine skip_ (w1 := ?_) (by rfl) rfl ?_ ?_
     rotate_left
     ·go_simp
      rfl
     refine hK.out _ _ ⟨((cell_far (p := ⟨gb197, _, none⟩) NB196_197.out _).trans (((cell_far (p := ⟨gb197, _, none⟩) NB196_197.out _).trans (hHeld.1)))), ((cell_far (p := ⟨gb197, _, none⟩) NB196_197.out _).trans (((cell_far (p := ⟨gb197, _, none⟩) NB196_197.out _).trans (hHeld.2))))⟩ (fun hHeld => ?_)
     clear hK K
     refine done_ (done_of HT_.out (by kernel_rfl)) ?_
     try go_wp2
     refine bodyPost_ret (results_cell_row rfl _ _ gb197 30 #[.int .i64 a0_0, .slice Ao18 y202.length co18] (0, 0) _ rfl (by (with_reducible repeat (first | refine blk_drewN ?_ _ | refine blk_drew ?_ | refine blk_alloc ?_ _)); refine blk_put (cs := #[.int .i64 a0_0, .slice none 0 0]) ?_ 1 _ rfl; (with_reducible repeat (first | refine blk_drewN ?_ _ | refine blk_drew ?_ | refine blk_alloc ?_ _)); refine blk_put (cs := #[.int .i64 0, .slice none 0 0]) ?_ 0 _ rfl; (with_reducible repeat (first | refine blk_drewN ?_ _ | refine blk_drew ?_ | refine blk_alloc ?_ _)); exact BK197.out) Try.underlying30 rfl (by kernel_rfl)) rfl ?_
     exact ⟨_, by first | rfl | (simp [errW_none, errW_some] <;> rfl) | (simp [*, errW_none, errW_some] <;> rfl), by (with_reducible repeat (first | apply Kd.R_alloc | apply Kd.R_drewN | apply Kd.R_drew)); exact Kd.R_mono (Kd.R_far (p := ⟨gb197, 1, none⟩) (Kd.R_far (p := ⟨gb197, 0, none⟩) (Kd.R_types HO204.out BK197.out (by decide)) (fun _ hk => hk.2) (.int .i64 a0_0)) (fun _ hk => hk.2) (.slice Ao18 y202.length co18)) (fun _ hk => trivial), by repeat (first | (with_reducible first | exact HB.out | apply below_alloc | apply pw_below_drewN | apply below_drew1 | refine below_set ?_ GE196.out | refine below_set ?_ GE197.out) | exact HB.out)⟩
    ·rw [if_neg c13] at H
     exact absurd H (by simp)
   ·replace c12 := Bool.eq_false_iff.mpr c12
    subst c12
    have H1 : (cenotaphref02_Add.l0 kj2 a1 ([] : List Int) false 0 a0_0 l0_1) = some (r1, r2) := by rw [if_neg (show ¬ (false = true) by decide)] at H; exact H
    clear H
    have H := H1
    clear H1
    have H' := Aside0.mk H
    clear H
    go_wp2
    go_loopg [5, 6, 7] kj2 (fun kq v5 v6 v7 w' => ∃ (x5_2 : List Int) (x6_2 : Bool) (x7_2 : Int), v6 = .bool x6_2 ∧ v7 = .int .i64 x7_2 ∧ Aside0 (cenotaphref02_Add.l0 kq a1 x5_2 x6_2 x7_2 a0_0 l0_1 = some (r1, r2)) ∧ Aside0 (kq ≤ kj2) ∧ Aside0 (Kd.Q (Kd.int .i64) 3 w' w.heap.size (fun _ => True) v5 x5_2) ∧ Aside0 (w'.heap[gb196]? = some (.cells #[.int .i64 a0_0, (.slice A0_1 l0_1.length c0_1)] 30 (0, 0))) ∧ Aside0 (w'.heap[gb197]? = some (.cells #[.int .i64 0, (.slice none 0 0)] 30 (0, 0))) ∧ Aside0 (Below w.heap.size w w'))
    case atStart => exact ⟨(([] : List Int)), (false), (0), zq19_7, zq19_7, H', ⟨Nat.le_refl _⟩, ⟨Kd.Q_of_R (by first | exact Kd.R_nil _ _ _ _ _ | exact Kd.N_nil _ _ _ _ _ | exact Kd.V_nil _ _ _ _ _ | exact Kd.Q_nil _ _ _ _ _ | exact Kd.S_nil _ _ _ _ _)⟩, ⟨by (with_reducible repeat (first | refine blk_drewN ?_ _ | refine blk_drew ?_ | refine blk_alloc ?_ _)); exact BK196.out⟩, ⟨by (with_reducible repeat (first | refine blk_drewN ?_ _ | refine blk_drew ?_ | refine blk_alloc ?_ _)); exact BK197.out⟩, ⟨by repeat (first | (with_reducible first | exact HB.out | apply below_alloc | apply pw_below_drewN | apply below_drew1 | refine below_set ?_ GE196.out | refine below_set ?_ GE197.out) | exact HB.out)⟩⟩
    case round =>
     clear H'
     try clear c1
     try clear p2
     try clear c6
     try clear c6b0
     try clear c7
     try clear c7b0
     try clear c9
     try clear c12
     try clear c13
     try clear c19
     try clear hcz10_0
     try clear hcz10_1
     try clear hfz10_0
     try clear hfz10_1
     try clear p2
     obtain ⟨x5_2, x6_2, x7_2, rfl, rfl, HA, HK2, HO_5, BK196, BK197, HB⟩ := hrel
     cases gk with
     | zero => exact absurd HA.out (by simp [cenotaphref02_Add.l0])
     | succ k2 =>
      have H := HA.out
      clear HA
      simp only [cenotaphref02_Add.l0] at H
      by_cases c21 : x7_2 < (l0_1.length : Int)
      ·rw [if_pos c21] at H
       have c21b0 : decide (x7_2 < (l0_1.length : Int)) = true := decide_eq_true c21
       clear c21
       by_cases c22 : x6_2 = true
       ·subst c22
        have H1 : (if 0 ≤ x7_2 then (if x5_2.length < 17592186044416 then (cenotaphref02_Add.l0 k2 a1 (x5_2 ++ [rd l0_1 x7_2]) true (wrap64 (x7_2 + 1)) a0_0 l0_1) else (none)) else (none)) = some (r1, r2) := by rw [if_pos rfl] at H; exact H
        clear H
        have H := H1
        clear H1
        by_cases c23 : 0 ≤ x7_2
        ·rw [if_pos c23] at H
         have c23b0 : decide (0 ≤ x7_2) = true := decide_eq_true c23
         clear c23
         by_cases c24 : x5_2.length < 17592186044416
         ·rw [if_pos c24] at H
          have LMc24 := Aside0.mk c24
          clear c24
          obtain ⟨y206, hy206⟩ : ∃ y_ : List Int, y_ = (x5_2 ++ [rd l0_1 x7_2]) := ⟨_, rfl⟩
          replace H : (cenotaphref02_Add.l0 k2 a1 y206 true (wrap64 (x7_2 + 1)) a0_0 l0_1) = some (r1, r2) := by first | (rw [hy206]; with_reducible exact H) | (have H2_ := (Option.bind_some _ _).symm.trans H; rw [hy206]; with_reducible exact H2_) | (have H2_ := (Option.bind_some _ _).symm.trans H; with_reducible exact H2_) | with_reducible exact H | (rw [hy206]; exact H) | exact H
          have Ny206 := Aside0.mk hy206
          clear hy206
          have H' := Aside0.mk H
          clear H
          have hnb25 := NB196_197.out
          have hnc25 := NB197_196.out
          have hcz26_0 : wr.cell? ⟨gb196, 0, none⟩ = some (.int .i64 a0_0) := (blk_cell BK196.out 0).trans rfl
          have hcz26_1 : wr.cell? ⟨gb196, 1, none⟩ = some (.slice A0_1 l0_1.length c0_1) := (blk_cell BK196.out 1).trans rfl
          have hfz26_0 := blk_frozen BK196.out 0
          have hfz26_1 := blk_frozen BK196.out 1
          have p205 : 0 ≤ (x7_2 : Int) := of_decide_eq_true zq19_6
          have q205 : x7_2 < (l0_1.length : Int) := of_decide_eq_true zq19_6
          obtain ⟨ad205, e205, hx205_0⟩ := Kd.at_int HR0_1.out x7_2 p205 q205
          cases e205
          replace hx205_0 := (HB.out.cell (World.block_lt_of_cell? w _ hx205_0)).trans hx205_0
          replace p205 := eq_true p205
          replace q205 := eq_true q205
          go_wp2_with (first | ((with_reducible refine gate_builtin (b := .append) (xs := #[.tmp 49, .tmp 55]) rfl ?_); at_builtin; refine Kd.Q_append (Kd.int .i64) (w0 := w) w.heap.size rfl (.tmp 49) (.tmp 55) 22 3 (.int .i64 0) 8 rfl Try.underlying22 info3 rfl (by decide) (by omega) u5 x5_2 (rd l0_1 x7_2) [.int .i64 (rd l0_1 x7_2)] (fun _ => True) (fun _ => False) rfl rfl ?aP (fun _ hk => hk.elim) ?aF ?aO ?aB ?aS ?aL ?_; (case aP => exact rfl); (case aB => exact zq19_0); (case aF => exact (fun _ _ => trivial)); (case aO => exact zq19_5); (case aS => exact (below_size zq19_0)); (case aL => have := LMc24.out; omega); intro v207 w27 ho hb hg hat; rw [← Ny206.out] at ho; have n0_ := Aside0.mk (blk_grown (g := gb196) (o := .cells #[.int .i64 a0_0, .slice (some ad205) l0_1.length c0_1] 30 (0, 0)) zq19_3 hg (Kd.Q_ne HO_5.out BK196.out (by decide))); have n1_ := Aside0.mk (blk_grown (g := gb197) (o := .cells #[.int .i64 0, .slice none 0 0] 30 (0, 0)) zq19_4 hg (Kd.Q_ne HO_5.out BK197.out (by decide))); have n2_ := Aside0.mk (hb); have n3_ := Aside0.mk (ho); clear BK196; clear BK197; clear HB; clear HO_5; have BK196 := n0_; have BK197 := n1_; have HB := n2_; have HO208 := n3_; clear n0_ n1_ n2_ n3_; clear ho hb hg hat))
          go_roundg k2
          case measure => have := HJ2.out; have := HK2.out; omega
          case rel => exact ⟨(y206), (true), (wrap64 (x7_2 + 1)), zq19_7, zq19_7, H', ⟨by have := HJ2.out; have := HK2.out; omega⟩, ⟨by (with_reducible repeat (first | apply Kd.Q_alloc | apply Kd.Q_drewN | apply Kd.Q_drew)); exact HO208.out⟩, ⟨by (with_reducible repeat (first | refine blk_drewN ?_ _ | refine blk_drew ?_ | refine blk_alloc ?_ _)); exact BK196.out⟩, ⟨by (with_reducible repeat (first | refine blk_drewN ?_ _ | refine blk_drew ?_ | refine blk_alloc ?_ _)); exact BK197.out⟩, ⟨by repeat (first | (with_reducible first | exact HB.out | apply below_alloc | apply pw_below_drewN | apply below_drew1 | refine below_set ?_ GE196.out | refine below_set ?_ GE197.out) | exact HB.out)⟩⟩
         ·rw [if_neg c24] at H
          exact absurd H (by simp)
        ·rw [if_neg c23] at H
         exact absurd H (by simp)
       ·replace c22 := Bool.eq_false_iff.mpr c22
        subst c22
        have H1 : (if 0 ≤ x7_2 then (if (rd l0_1 x7_2) > a1 then (if x5_2.length < 17592186044416 then ((some (x5_2 ++ [a1] : List Int)).bind fun y210 => (if y210.length < 17592186044416 then (cenotaphref02_Add.l0 k2 a1 (y210 ++ [rd l0_1 x7_2]) true (wrap64 (x7_2 + 1)) a0_0 l0_1) else (none))) else (none)) else (if x5_2.length < 17592186044416 then (cenotaphref02_Add.l0 k2 a1 (x5_2 ++ [rd l0_1 x7_2]) false (wrap64 (x7_2 + 1)) a0_0 l0_1) else (none))) else (none)) = some (r1, r2) := by rw [if_neg (show ¬ (false = true) by decide)] at H; exact H
        clear H
        have H := H1
        clear H1
        by_cases c28 : 0 ≤ x7_2
        ·rw [if_pos c28] at H
         have c28b0 : decide (0 ≤ x7_2) = true := decide_eq_true c28
         clear c28
         by_cases c29 : (rd l0_1 x7_2) > a1
         ·rw [if_pos c29] at H
          have c29b0 : decide (a1 < (rd l0_1 x7_2)) = true := decide_eq_true c29
          clear c29
          by_cases c30 : x5_2.length < 17592186044416
          ·rw [if_pos c30] at H
           have LMc30 := Aside0.mk c30
           clear c30
           obtain ⟨y210, hy210⟩ : ∃ y_ : List Int, y_ = (x5_2 ++ [a1]) := ⟨_, rfl⟩
           replace H : (if y210.length < 17592186044416 then (cenotaphref02_Add.l0 k2 a1 (y210 ++ [rd l0_1 x7_2]) true (wrap64 (x7_2 + 1)) a0_0 l0_1) else (none)) = some (r1, r2) := by first | (rw [hy210]; with_reducible exact H) | (have H2_ := (Option.bind_some _ _).symm.trans H; rw [hy210]; with_reducible exact H2_) | (have H2_ := (Option.bind_some _ _).symm.trans H; with_reducible exact H2_) | with_reducible exact H | (rw [hy210]; exact H) | exact H
           have Ny210 := Aside0.mk hy210
           clear hy210
           by_cases c31 : y210.length < 17592186044416
           ·rw [if_pos c31] at H
            have LMc31 := Aside0.mk c31
            clear c31
            obtain ⟨y214, hy214⟩ : ∃ y_ : List Int, y_ = (y210 ++ [rd l0_1 x7_2]) := ⟨_, rfl⟩
            replace H : (cenotaphref02_Add.l0 k2 a1 y214 true (wrap64 (x7_2 + 1)) a0_0 l0_1) = some (r1, r2) := by first | (rw [hy214]; with_reducible exact H) | (have H2_ := (Option.bind_some _ _).symm.trans H; rw [hy214]; with_reducible exact H2_) | (have H2_ := (Option.bind_some _ _).symm.trans H; with_reducible exact H2_) | with_reducible exact H | (rw [hy214]; exact H) | exact H
            have Ny214 := Aside0.mk hy214
            clear hy214
            have H' := Aside0.mk H
            clear H
            have hnb32 := NB196_197.out
            have hnc32 := NB197_196.out
            have hcz33_0 : wr.cell? ⟨gb196, 0, none⟩ = some (.int .i64 a0_0) := (blk_cell BK196.out 0).trans rfl
            have hcz33_1 : wr.cell? ⟨gb196, 1, none⟩ = some (.slice A0_1 l0_1.length c0_1) := (blk_cell BK196.out 1).trans rfl
            have hfz33_0 := blk_frozen BK196.out 0
            have hfz33_1 := blk_frozen BK196.out 1
            have p209 : 0 ≤ (x7_2 : Int) := of_decide_eq_true zq19_6
            have q209 : x7_2 < (l0_1.length : Int) := of_decide_eq_true zq19_6
            obtain ⟨ad209, e209, hx209_0⟩ := Kd.at_int HR0_1.out x7_2 p209 q209
            cases e209
            replace hx209_0 := (HB.out.cell (World.block_lt_of_cell? w _ hx209_0)).trans hx209_0
            replace p209 := eq_true p209
            replace q209 := eq_true q209
            go_wp2_with (first | ((with_reducible refine gate_builtin (b := .append) (xs := #[.tmp 45, .tmp 47]) rfl ?_); at_builtin; refine Kd.Q_append (Kd.int .i64) (w0 := w) w.heap.size rfl (.tmp 45) (.tmp 47) 22 3 (.int .i64 0) 8 rfl Try.underlying22 info3 rfl (by decide) (by omega) u5 x5_2 a1 [.int .i64 a1] (fun _ => True) (fun _ => False) rfl rfl ?aP (fun _ hk => hk.elim) ?aF ?aO ?aB ?aS ?aL ?_; (case aP => exact rfl); (case aB => exact zq19_0); (case aF => exact (fun _ _ => trivial)); (case aO => exact zq19_5); (case aS => exact (below_size zq19_0)); (case aL => have := LMc30.out; omega); intro v211 w34 ho hb hg hat; rw [← Ny210.out] at ho; have n0_ := Aside0.mk (blk_grown (g := gb196) (o := .cells #[.int .i64 a0_0, .slice (some ad209) l0_1.length c0_1] 30 (0, 0)) zq19_3 hg (Kd.Q_ne HO_5.out BK196.out (by decide))); have n1_ := Aside0.mk (blk_grown (g := gb197) (o := .cells #[.int .i64 0, .slice none 0 0] 30 (0, 0)) zq19_4 hg (Kd.Q_ne HO_5.out BK197.out (by decide))); have n2_ := Aside0.mk (hb); have n3_ := Aside0.mk (ho); clear BK196; clear BK197; clear HB; clear HO_5; have BK196 := n0_; have BK197 := n1_; have HB := n2_; have HO212 := n3_; clear n0_ n1_ n2_ n3_; clear ho hb hg hat; have hcz35_0 : w34.cell? ⟨gb196, 0, none⟩ = some (.int .i64 a0_0) := (blk_cell BK196.out 0).trans rfl; have hcz35_1 : w34.cell? ⟨gb196, 1, none⟩ = some (.slice (some ad209) l0_1.length c0_1) := (blk_cell BK196.out 1).trans rfl; have hfz35_0 := blk_frozen BK196.out 0; have hfz35_1 := blk_frozen BK196.out 1; have p213 : 0 ≤ (x7_2 : Int) := of_decide_eq_true zq19_6; have q213 : x7_2 < (l0_1.length : Int) := of_decide_eq_true zq19_6; obtain ⟨ad213, e213, hx213_0⟩ := Kd.at_int HR0_1.out x7_2 p213 q213; obtain rfl : ad209 = ad213 := (by injection e213); replace hx213_0 := (HB.out.cell (World.block_lt_of_cell? w _ hx213_0)).trans hx213_0; replace p213 := eq_true p213; replace q213 := eq_true q213) | ((with_reducible refine gate_builtin (b := .append) (xs := #[.tmp 49, .tmp 55]) rfl ?_); at_builtin; refine Kd.Q_append (Kd.int .i64) (w0 := w) w.heap.size rfl (.tmp 49) (.tmp 55) 22 3 (.int .i64 0) 8 rfl Try.underlying22 info3 rfl (by decide) (by omega) v211 y210 (rd l0_1 x7_2) [.int .i64 (rd l0_1 x7_2)] (fun _ => True) (fun _ => False) rfl rfl ?aP (fun _ hk => hk.elim) ?aF ?aO ?aB ?aS ?aL ?_; (case aP => exact rfl); (case aB => exact zq19_0); (case aF => exact (fun _ _ => trivial)); (case aO => exact (by (with_reducible repeat (first | apply Kd.Q_alloc | apply Kd.Q_drewN | apply Kd.Q_drew)); exact HO212.out)); (case aS => exact (below_size zq19_0)); (case aL => have := LMc31.out; omega); intro v215 w36 ho hb hg hat; rw [← Ny214.out] at ho; have n0_ := Aside0.mk (blk_grown (g := gb196) (o := .cells #[.int .i64 a0_0, .slice (some ad209) l0_1.length c0_1] 30 (0, 0)) zq19_3 hg (Kd.Q_ne HO212.out BK196.out (by decide))); have n1_ := Aside0.mk (blk_grown (g := gb197) (o := .cells #[.int .i64 0, .slice none 0 0] 30 (0, 0)) zq19_4 hg (Kd.Q_ne HO212.out BK197.out (by decide))); have n2_ := Aside0.mk (hb); have n3_ := Aside0.mk (ho); clear BK196; clear BK197; clear HB; clear HO212; have BK196 := n0_; have BK197 := n1_; have HB := n2_; have HO216 := n3_; clear n0_ n1_ n2_ n3_; clear ho hb hg hat))
            go_roundg k2
            case measure => have := HJ2.out; have := HK2.out; omega
            case rel => exact ⟨(y214), (true), (wrap64 (x7_2 + 1)), zq19_7, zq19_7, H', ⟨by have := HJ2.out; have := HK2.out; omega⟩, ⟨by (with_reducible repeat (first | apply Kd.Q_alloc | apply Kd.Q_drewN | apply Kd.Q_drew)); exact HO216.out⟩, ⟨by (with_reducible repeat (first | refine blk_drewN ?_ _ | refine blk_drew ?_ | refine blk_alloc ?_ _)); exact BK196.out⟩, ⟨by (with_reducible repeat (first | refine blk_drewN ?_ _ | refine blk_drew ?_ | refine blk_alloc ?_ _)); exact BK197.out⟩, ⟨by repeat (first | (with_reducible first | exact HB.out | apply below_alloc | apply pw_below_drewN | apply below_drew1 | refine below_set ?_ GE196.out | refine below_set ?_ GE197.out) | exact HB.out)⟩⟩
           ·rw [if_neg c31] at H
            exact absurd H (by simp)
          ·rw [if_neg c30] at H
           exact absurd H (by simp)
         ·rw [if_neg c29] at H
          have c29b0 : decide (a1 < (rd l0_1 x7_2)) = false := decide_eq_false c29
          clear c29
          by_cases c37 : x5_2.length < 17592186044416
          ·rw [if_pos c37] at H
           have LMc37 := Aside0.mk c37
           clear c37
           obtain ⟨y218, hy218⟩ : ∃ y_ : List Int, y_ = (x5_2 ++ [rd l0_1 x7_2]) := ⟨_, rfl⟩
           replace H : (cenotaphref02_Add.l0 k2 a1 y218 false (wrap64 (x7_2 + 1)) a0_0 l0_1) = some (r1, r2) := by first | (rw [hy218]; with_reducible exact H) | (have H2_ := (Option.bind_some _ _).symm.trans H; rw [hy218]; with_reducible exact H2_) | (have H2_ := (Option.bind_some _ _).symm.trans H; with_reducible exact H2_) | with_reducible exact H | (rw [hy218]; exact H) | exact H
           have Ny218 := Aside0.mk hy218
           clear hy218
           have H' := Aside0.mk H
           clear H
           have hnb38 := NB196_197.out
           have hnc38 := NB197_196.out
           have hcz39_0 : wr.cell? ⟨gb196, 0, none⟩ = some (.int .i64 a0_0) := (blk_cell BK196.out 0).trans rfl
           have hcz39_1 : wr.cell? ⟨gb196, 1, none⟩ = some (.slice A0_1 l0_1.length c0_1) := (blk_cell BK196.out 1).trans rfl
           have hfz39_0 := blk_frozen BK196.out 0
           have hfz39_1 := blk_frozen BK196.out 1
           have p209 : 0 ≤ (x7_2 : Int) := of_decide_eq_true zq19_6
           have q209 : x7_2 < (l0_1.length : Int) := of_decide_eq_true zq19_6
           obtain ⟨ad209, e209, hx209_0⟩ := Kd.at_int HR0_1.out x7_2 p209 q209
           cases e209
           replace hx209_0 := (HB.out.cell (World.block_lt_of_cell? w _ hx209_0)).trans hx209_0
           replace p209 := eq_true p209
           replace q209 := eq_true q209
           have p217 : 0 ≤ (x7_2 : Int) := of_decide_eq_true zq19_6
           have q217 : x7_2 < (l0_1.length : Int) := of_decide_eq_true zq19_6
           obtain ⟨ad217, e217, hx217_0⟩ := Kd.at_int HR0_1.out x7_2 p217 q217
           obtain rfl : ad209 = ad217 := (by injection e217)
           replace hx217_0 := (HB.out.cell (World.block_lt_of_cell? w _ hx217_0)).trans hx217_0
           replace p217 := eq_true p217
           replace q217 := eq_true q217
           go_wp2_with (first | ((with_reducible refine gate_builtin (b := .append) (xs := #[.tmp 49, .tmp 55]) rfl ?_); at_builtin; refine Kd.Q_append (Kd.int .i64) (w0 := w) w.heap.size rfl (.tmp 49) (.tmp 55) 22 3 (.int .i64 0) 8 rfl Try.underlying22 info3 rfl (by decide) (by omega) u5 x5_2 (rd l0_1 x7_2) [.int .i64 (rd l0_1 x7_2)] (fun _ => True) (fun _ => False) rfl rfl ?aP (fun _ hk => hk.elim) ?aF ?aO ?aB ?aS ?aL ?_; (case aP => exact rfl); (case aB => exact zq19_0); (case aF => exact (fun _ _ => trivial)); (case aO => exact zq19_5); (case aS => exact (below_size zq19_0)); (case aL => have := LMc37.out; omega); intro v219 w40 ho hb hg hat; rw [← Ny218.out] at ho; have n0_ := Aside0.mk (blk_grown (g := gb196) (o := .cells #[.int .i64 a0_0, .slice (some ad209) l0_1.length c0_1] 30 (0, 0)) zq19_3 hg (Kd.Q_ne HO_5.out BK196.out (by decide))); have n1_ := Aside0.mk (blk_grown (g := gb197) (o := .cells #[.int .i64 0, .slice none 0 0] 30 (0, 0)) zq19_4 hg (Kd.Q_ne HO_5.out BK197.out (by decide))); have n2_ := Aside0.mk (hb); have n3_ := Aside0.mk (ho); clear BK196; clear BK197; clear HB; clear HO_5; have BK196 := n0_; have BK197 := n1_; have HB := n2_; have HO220 := n3_; clear n0_ n1_ n2_ n3_; clear ho hb hg hat))
           go_roundg k2
           case measure => have := HJ2.out; have := HK2.out; omega
           case rel => exact ⟨(y218), (false), (wrap64 (x7_2 + 1)), zq19_7, zq19_7, H', ⟨by have := HJ2.out; have := HK2.out; omega⟩, ⟨by (with_reducible repeat (first | apply Kd.Q_alloc | apply Kd.Q_drewN | apply Kd.Q_drew)); exact HO220.out⟩, ⟨by (with_reducible repeat (first | refine blk_drewN ?_ _ | refine blk_drew ?_ | refine blk_alloc ?_ _)); exact BK196.out⟩, ⟨by (with_reducible repeat (first | refine blk_drewN ?_ _ | refine blk_drew ?_ | refine blk_alloc ?_ _)); exact BK197.out⟩, ⟨by repeat (first | (with_reducible first | exact HB.out | apply below_alloc | apply pw_below_drewN | apply below_drew1 | refine below_set ?_ GE196.out | refine below_set ?_ GE197.out) | exact HB.out)⟩⟩
          ·rw [if_neg c37] at H
           exact absurd H (by simp)
        ·rw [if_neg c28] at H
         exact absurd H (by simp)
      ·rw [if_neg c21] at H
       have c21b0 : decide (x7_2 < (l0_1.length : Int)) = false := decide_eq_false c21
       clear c21
       have HC41 := Aside0.mk H
       clear H
       have hnb42 := NB196_197.out
       have hnc42 := NB197_196.out
       have hcz43_0 : wr.cell? ⟨gb196, 0, none⟩ = some (.int .i64 a0_0) := (blk_cell BK196.out 0).trans rfl
       have hcz43_1 : wr.cell? ⟨gb196, 1, none⟩ = some (.slice A0_1 l0_1.length c0_1) := (blk_cell BK196.out 1).trans rfl
       have hfz43_0 := blk_frozen BK196.out 0
       have hfz43_1 := blk_frozen BK196.out 1
       go_upto_if 58 with (fail)
       go_cut [5] (fun v5 wc => ∃ (kq : Nat) (x5_40 : List Int), Aside0 (cenotaphref02_Add.j2 kq x5_40 a0_0 l0_1 = some (r1, r2)) ∧ Aside0 (kq ≤ k2) ∧ Aside0 (Kd.Q (Kd.int .i64) 3 wc w.heap.size (fun _ => True) v5 x5_40) ∧ Aside0 (wc.heap[gb196]? = some (.cells #[.int .i64 a0_0, (.slice A0_1 l0_1.length c0_1)] 30 (0, 0))) ∧ Aside0 (wc.heap[gb197]? = some (.cells #[.int .i64 0, (.slice none 0 0)] 30 (0, 0))) ∧ Aside0 (Below w.heap.size w wc))
       case first =>
        have H := HC41.out
        clear HC41
        by_cases c44 : x6_2 = true
        ·subst c44
         have H1 : (cenotaphref02_Add.j2 k2 x5_2 a0_0 l0_1) = some (r1, r2) := by rw [if_pos rfl] at H; exact H
         clear H
         have H := H1
         clear H1
         have H' := Aside0.mk H
         clear H
         go_wp2
         go_meet
         case rel => exact ⟨_, (x5_2), H', ⟨by have := HJ2.out; have := HK2.out; first | omega | exact Nat.le_refl _⟩, ⟨by (with_reducible repeat (first | apply Kd.Q_alloc | apply Kd.Q_drewN | apply Kd.Q_drew)); exact HO_5.out⟩, ⟨by (with_reducible repeat (first | refine blk_drewN ?_ _ | refine blk_drew ?_ | refine blk_alloc ?_ _)); exact BK196.out⟩, ⟨by (with_reducible repeat (first | refine blk_drewN ?_ _ | refine blk_drew ?_ | refine blk_alloc ?_ _)); exact BK197.out⟩, ⟨by repeat (first | (with_reducible first | exact HB.out | apply below_alloc | apply pw_below_drewN | apply below_drew1 | refine below_set ?_ GE196.out | refine below_set ?_ GE197.out) | exact HB.out)⟩⟩
        ·replace c44 := Bool.eq_false_iff.mpr c44
         subst c44
         have H1 : (if x5_2.length < 17592186044416 then (cenotaphref02_Add.j2 k2 (x5_2 ++ [a1]) a0_0 l0_1) else (none)) = some (r1, r2) := by rw [if_neg (show ¬ (false = true) by decide)] at H; exact H
         clear H
         have H := H1
         clear H1
         by_cases c45 : x5_2.length < 17592186044416
         ·rw [if_pos c45] at H
          have LMc45 := Aside0.mk c45
          clear c45
          obtain ⟨y221, hy221⟩ : ∃ y_ : List Int, y_ = (x5_2 ++ [a1]) := ⟨_, rfl⟩
          replace H : (cenotaphref02_Add.j2 k2 y221 a0_0 l0_1) = some (r1, r2) := by first | (rw [hy221]; with_reducible exact H) | (have H2_ := (Option.bind_some _ _).symm.trans H; rw [hy221]; with_reducible exact H2_) | (have H2_ := (Option.bind_some _ _).symm.trans H; with_reducible exact H2_) | with_reducible exact H | (rw [hy221]; exact H) | exact H
          have Ny221 := Aside0.mk hy221
          clear hy221
          have H' := Aside0.mk H
          clear H
          go_wp2_with (first | ((with_reducible refine gate_builtin (b := .append) (xs := #[.tmp 59, .tmp 61]) rfl ?_); at_builtin; refine Kd.Q_append (Kd.int .i64) (w0 := w) w.heap.size rfl (.tmp 59) (.tmp 61) 22 3 (.int .i64 0) 8 rfl Try.underlying22 info3 rfl (by decide) (by omega) u5 x5_2 a1 [.int .i64 a1] (fun _ => True) (fun _ => False) rfl rfl ?aP (fun _ hk => hk.elim) ?aF ?aO ?aB ?aS ?aL ?_; (case aP => exact rfl); (case aB => exact zq19_0); (case aF => exact (fun _ _ => trivial)); (case aO => exact zq19_5); (case aS => exact (below_size zq19_0)); (case aL => have := LMc45.out; omega); intro v222 w46 ho hb hg hat; rw [← Ny221.out] at ho; have n0_ := Aside0.mk (blk_grown (g := gb196) (o := .cells #[.int .i64 a0_0, .slice A0_1 l0_1.length c0_1] 30 (0, 0)) zq19_3 hg (Kd.Q_ne HO_5.out BK196.out (by decide))); have n1_ := Aside0.mk (blk_grown (g := gb197) (o := .cells #[.int .i64 0, .slice none 0 0] 30 (0, 0)) zq19_4 hg (Kd.Q_ne HO_5.out BK197.out (by decide))); have n2_ := Aside0.mk (hb); have n3_ := Aside0.mk (ho); clear BK196; clear BK197; clear HB; clear HO_5; have BK196 := n0_; have BK197 := n1_; have HB := n2_; have HO223 := n3_; clear n0_ n1_ n2_ n3_; clear ho hb hg hat))
          go_meet
          case rel => exact ⟨_, (y221), H', ⟨by have := HJ2.out; have := HK2.out; first | omega | exact Nat.le_refl _⟩, ⟨by (with_reducible repeat (first | apply Kd.Q_alloc | apply Kd.Q_drewN | apply Kd.Q_drew)); exact HO223.out⟩, ⟨by (with_reducible repeat (first | refine blk_drewN ?_ _ | refine blk_drew ?_ | refine blk_alloc ?_ _)); exact BK196.out⟩, ⟨by (with_reducible repeat (first | refine blk_drewN ?_ _ | refine blk_drew ?_ | refine blk_alloc ?_ _)); exact BK197.out⟩, ⟨by repeat (first | (with_reducible first | exact HB.out | apply below_alloc | apply pw_below_drewN | apply below_drew1 | refine below_set ?_ GE196.out | refine below_set ?_ GE197.out) | exact HB.out)⟩⟩
         ·rw [if_neg c45] at H
          exact absurd H (by simp)
       case rest =>
        clear HC41
        try clear c1
        try clear c2
        try clear p2
        try clear q2
        try clear hx2
        try clear c3
        try clear c4
        try clear c6
        try clear c6b0
        try clear p6
        try clear c7
        try clear c7b0
        try clear c9
        try clear c12
        try clear c13
        try clear c19
        try clear p20
        try clear q20
        try clear hx20
        try clear c21
        try clear c21b0
        try clear p21
        try clear q21
        try clear hx21
        try clear c22
        try clear c23
        try clear c23b0
        try clear c24
        try clear c25
        try clear c28
        try clear c28b0
        try clear c29
        try clear c29b0
        try clear c30
        try clear c31
        try clear c32
        try clear c37
        try clear c38
        try clear c42
        try clear c44
        try clear c45
        try clear hcz10_0
        try clear hcz10_1
        try clear hcz26_0
        try clear hcz26_1
        try clear hcz33_0
        try clear hcz33_1
        try clear hcz35_0
        try clear hcz35_1
        try clear hcz39_0
        try clear hcz39_1
        try clear hcz43_0
        try clear hcz43_1
        try clear hfz10_0
        try clear hfz10_1
        try clear hfz26_0
        try clear hfz26_1
        try clear hfz33_0
        try clear hfz33_1
        try clear hfz35_0
        try clear hfz35_1
        try clear hfz39_0
        try clear hfz39_1
        try clear hfz43_0
        try clear hfz43_1
        try clear hx205_0
        try clear hx209_0
        try clear hx213_0
        try clear hx217_0
        try clear p2
        try clear p205
        try clear p209
        try clear p213
        try clear p217
        try clear q205
        try clear q209
        try clear q213
        try clear q217
        obtain ⟨kq, x5_40, HA, HJ40, HO_5, BK196, BK197, HB⟩ := hcut
        cases kq with
        | zero => exact absurd HA.out (by simp [cenotaphref02_Add.j2])
        | succ kj40 =>
         have H := HA.out
         clear HA
         simp only [cenotaphref02_Add.j2] at H
         have H' := Aside0.mk H
         clear H
         have hnb47 := NB196_197.out
         have hnc47 := NB197_196.out
         have hcz48_0 : wc.cell? ⟨gb196, 0, none⟩ = some (.int .i64 a0_0) := (blk_cell BK196.out 0).trans rfl
         have hcz48_1 : wc.cell? ⟨gb196, 1, none⟩ = some (.slice A0_1 l0_1.length c0_1) := (blk_cell BK196.out 1).trans rfl
         have hfz48_0 := blk_frozen BK196.out 0
         have hfz48_1 := blk_frozen BK196.out 1
         go_wp2
         go_loopg [5, 8] kj40 (fun kq v5 v8 w' => ∃ (x5_4 : List Int) (x8_4 : Int), v8 = .int .i64 x8_4 ∧ Aside0 (cenotaphref02_Add.l1 kq x5_4 x8_4 = some (r1, r2)) ∧ Aside0 (kq ≤ kj40) ∧ Aside0 (Kd.Q (Kd.int .i64) 3 w' w.heap.size (fun _ => True) v5 x5_4) ∧ Aside0 (w'.heap[gb196]? = some (.cells #[.int .i64 a0_0, (.slice A0_1 l0_1.length c0_1)] 30 (0, 0))) ∧ Aside0 (w'.heap[gb197]? = some (.cells #[.int .i64 0, (.slice none 0 0)] 30 (0, 0))) ∧ Aside0 (Below w.heap.size w w'))
         case atStart => exact ⟨(x5_40), (a0_0), zq19_7, H', ⟨Nat.le_refl _⟩, ⟨by (with_reducible repeat (first | apply Kd.Q_alloc | apply Kd.Q_drewN | apply Kd.Q_drew)); exact HO_5.out⟩, ⟨by (with_reducible repeat (first | refine blk_drewN ?_ _ | refine blk_drew ?_ | refine blk_alloc ?_ _)); exact BK196.out⟩, ⟨by (with_reducible repeat (first | refine blk_drewN ?_ _ | refine blk_drew ?_ | refine blk_alloc ?_ _)); exact BK197.out⟩, ⟨by repeat (first | (with_reducible first | exact HB.out | apply below_alloc | apply pw_below_drewN | apply below_drew1 | refine below_set ?_ GE196.out | refine below_set ?_ GE197.out) | exact HB.out)⟩⟩
         case round =>
          clear H'
          try clear c1
          try clear c2
          try clear p2
          try clear q2
          try clear hx2
          try clear c3
          try clear c4
          try clear c6
          try clear c6b0
          try clear p6
          try clear c7
          try clear c7b0
          try clear c9
          try clear c12
          try clear c13
          try clear c19
          try clear p20
          try clear q20
          try clear hx20
          try clear c21
          try clear c21b0
          try clear p21
          try clear q21
          try clear hx21
          try clear c22
          try clear c23
          try clear c23b0
          try clear c24
          try clear c25
          try clear c28
          try clear c28b0
          try clear c29
          try clear c29b0
          try clear c30
          try clear c31
          try clear c32
          try clear c37
          try clear c38
          try clear c42
          try clear c44
          try clear c45
          try clear c47
          try clear hcz10_0
          try clear hcz10_1
          try clear hcz26_0
          try clear hcz26_1
          try clear hcz33_0
          try clear hcz33_1
          try clear hcz35_0
          try clear hcz35_1
          try clear hcz39_0
          try clear hcz39_1
          try clear hcz43_0
          try clear hcz43_1
          try clear hcz48_0
          try clear hcz48_1
          try clear hfz10_0
          try clear hfz10_1
          try clear hfz26_0
          try clear hfz26_1
          try clear hfz33_0
          try clear hfz33_1
          try clear hfz35_0
          try clear hfz35_1
          try clear hfz39_0
          try clear hfz39_1
          try clear hfz43_0
          try clear hfz43_1
          try clear hfz48_0
          try clear hfz48_1
          try clear hx205_0
          try clear hx209_0
          try clear hx213_0
          try clear hx217_0
          try clear p2
          try clear p20
          try clear p205
          try clear p209
          try clear p21
          try clear p213
          try clear p217
          try clear p6
          try clear q2
          try clear q20
          try clear q205
          try clear q209
          try clear q21
          try clear q213
          try clear q217
          obtain ⟨x5_4, x8_4, rfl, HA, HK4, HO_5, BK196, BK197, HB⟩ := hrel
          cases gk with
          | zero => exact absurd HA.out (by simp [cenotaphref02_Add.l1])
          | succ k4 =>
           have H := HA.out
           clear HA
           simp only [cenotaphref02_Add.l1] at H
           by_cases c49 : (x5_4.length : Int) > 0
           ·rw [if_pos c49] at H
            have c49b0 : decide (0 < (x5_4.length : Int)) = true := decide_eq_true c49
            have c49b1 : decide (0 < x5_4.length) = true := decide_eq_true (by omega)
            clear c49
            by_cases c50 : 0 < (x5_4.length : Int)
            ·rw [if_pos c50] at H
             have c50b0 : decide (0 < (x5_4.length : Int)) = true := decide_eq_true c50
             have c50b1 : decide (0 < x5_4.length) = true := decide_eq_true (by omega)
             clear c50
             by_cases c51 : (rd x5_4 0) = (wrap64 (x8_4 + 1))
             ·rw [if_pos c51] at H
              have c51b0 : ((rd x5_4 0) == (wrap64 (x8_4 + 1))) = true := beq_iff_eq.mpr c51
              have c51b1 : ((rd x5_4 0) != (wrap64 (x8_4 + 1))) = false := bne_eq_false_iff_eq.mpr c51
              clear c51
              by_cases c52 : 1 ≤ (x5_4.length : Int)
              ·rw [if_pos c52] at H
               have c52b0 := eq_true c52
               have c52b1 : decide (1 ≤ (x5_4.length : Int)) = true := decide_eq_true c52
               clear c52
               obtain ⟨y225, hy225⟩ : ∃ y_ : List Int, y_ = (x5_4.drop (1 : Int).toNat) := ⟨_, rfl⟩
               replace H : (cenotaphref02_Add.l1 k4 y225 (wrap64 (x8_4 + 1))) = some (r1, r2) := by first | (rw [hy225]; with_reducible exact H) | (have H2_ := (Option.bind_some _ _).symm.trans H; rw [hy225]; with_reducible exact H2_) | (have H2_ := (Option.bind_some _ _).symm.trans H; with_reducible exact H2_) | with_reducible exact H | (rw [hy225]; exact H) | exact H
               have Ny225 := Aside0.mk hy225
               clear hy225
               have H' := Aside0.mk H
               clear H
               obtain ⟨Ao53, co53, eo53, _⟩ := Kd.Q_slice HO_5.out
               subst eo53
               have p224 : 0 ≤ (0 : Int) := (by omega)
               have q224 : 0 < (x5_4.length : Int) := of_decide_eq_true zq19_6
               obtain ⟨ad224, e224, hx224_0⟩ := Kd.at_int (Kd.Q_reads' HO_5.out).2.2 0 p224 q224
               cases e224
               have qi224 : (0 < x5_4.length) = True := eq_true (by omega)
               (try rw [show ((0 : Int)).toNat = 0 from rfl] at hx224_0)
               (try rw [Addr.add_zero'] at hx224_0)
               replace p224 := eq_true p224
               replace q224 := eq_true q224
               have q54 : (1 : Int) ≤ ((x5_4.length : Int) : Int) := of_decide_eq_true zq19_6
               obtain ⟨i054, hi054, _, hsz54, _⟩ := info_parts info3
               have hcut54 := cut_from (P := Try.prog) 22 3 .i64 Try.underlying22 hi054 1 hsz54 (some ad224) x5_4.length co53 1 (by omega) q54
               have hr54 := Kd.Q_drop (k := (1 : Int).toNat) HO_5.out (by omega)
               obtain ⟨A54, hA54⟩ : ∃ A1, A1 = (if co53 = (1 : Int).toNat then (some ad224) else ((some ad224) : Option Addr).map (·.add ((1 : Int).toNat * 1))) := ⟨_, rfl⟩
               obtain ⟨c54, hc54⟩ : ∃ c1, c1 = co53 - (1 : Int).toNat := ⟨_, rfl⟩
               have hy54 : y225.length = x5_4.length - (1 : Int).toNat := (by rw [Ny225.out, List.length_drop])
               rw [← Ny225.out] at hr54
               rw [← hy54, ← hA54, ← hc54] at hcut54
               replace hr54 : Kd.Q (Kd.int .i64) 3 wr w.heap.size (fun _ => True) (.slice A54 y225.length c54) y225 := (by rw [hA54, hc54, hy54]; exact hr54)
               have HE54 : Aside0 ((Value.slice A54 y225.length c54).ownBlock = (.slice (some ad224) x5_4.length co53 : Value).ownBlock) := ⟨by rw [hA54]; split <;> (cases ((some ad224) : Option Addr) <;> rfl)⟩
               clear hy54 hi054 hsz54 HO_5 hA54 hc54
               have HO227 := Aside0.mk hr54
               clear hr54
               replace q54 := eq_true q54
               go_wp2
               go_roundg k4
               case measure => have := HJ2.out; have := HK2.out; have := HJ40.out; have := HK4.out; omega
               case rel => exact ⟨(y225), (wrap64 (x8_4 + 1)), zq19_7, H', ⟨by have := HJ2.out; have := HK2.out; have := HJ40.out; have := HK4.out; omega⟩, ⟨by (with_reducible repeat (first | apply Kd.Q_alloc | apply Kd.Q_drewN | apply Kd.Q_drew)); exact HO227.out⟩, ⟨by (with_reducible repeat (first | refine blk_drewN ?_ _ | refine blk_drew ?_ | refine blk_alloc ?_ _)); exact BK196.out⟩, ⟨by (with_reducible repeat (first | refine blk_drewN ?_ _ | refine blk_drew ?_ | refine blk_alloc ?_ _)); exact BK197.out⟩, ⟨by repeat (first | (with_reducible first | exact HB.out | apply below_alloc | apply pw_below_drewN | apply below_drew1 | refine below_set ?_ GE196.out | refine below_set ?_ GE197.out) | exact HB.out)⟩⟩
              ·rw [if_neg c52] at H
               exact absurd H (by simp)
             ·rw [if_neg c51] at H
              have c51b0 : ((rd x5_4 0) == (wrap64 (x8_4 + 1))) = false := beq_eq_false_iff_ne.mpr c51
              have c51b1 : ((rd x5_4 0) != (wrap64 (x8_4 + 1))) = true := bne_iff_ne.mpr c51
              obtain ⟨y228, hy228⟩ : ∃ y_ : List Int, y_ = (([] : List Int)) := ⟨_, rfl⟩
              replace H : (if y228.length + x5_4.length < 17592186044416 then (some (x8_4, (y228 ++ x5_4))) else (none)) = some (r1, r2) := by first | (rw [hy228]; with_reducible exact H) | (have H2_ := (Option.bind_some _ _).symm.trans H; rw [hy228]; with_reducible exact H2_) | (have H2_ := (Option.bind_some _ _).symm.trans H; with_reducible exact H2_) | with_reducible exact H | (rw [hy228]; exact H) | exact H
              have Ny228 := Aside0.mk hy228
              clear hy228
              by_cases c55 : y228.length + x5_4.length < 17592186044416
              ·rw [if_pos c55] at H
               have LMc55 := Aside0.mk c55
               clear c55
               obtain ⟨y231, hy231⟩ : ∃ y_ : List Int, y_ = (y228 ++ x5_4) := ⟨_, rfl⟩
               replace H : (some (x8_4, y231)) = some (r1, r2) := by first | (rw [hy231]; with_reducible exact H) | (have H2_ := (Option.bind_some _ _).symm.trans H; rw [hy231]; with_reducible exact H2_) | (have H2_ := (Option.bind_some _ _).symm.trans H; with_reducible exact H2_) | with_reducible exact H | (rw [hy231]; exact H) | exact H
               have Ny231 := Aside0.mk hy231
               clear hy231
               simp only [Option.some.injEq, Prod.mk.injEq] at H
               obtain ⟨rfl, rfl⟩ := H
               obtain ⟨Ao56, co56, eo56, _⟩ := Kd.Q_slice HO_5.out
               subst eo56
               have p224 : 0 ≤ (0 : Int) := (by omega)
               have q224 : 0 < (x5_4.length : Int) := of_decide_eq_true zq19_6
               obtain ⟨ad224, e224, hx224_0⟩ := Kd.at_int (Kd.Q_reads' HO_5.out).2.2 0 p224 q224
               cases e224
               have qi224 : (0 < x5_4.length) = True := eq_true (by omega)
               (try rw [show ((0 : Int)).toNat = 0 from rfl] at hx224_0)
               (try rw [Addr.add_zero'] at hx224_0)
               replace p224 := eq_true p224
               replace q224 := eq_true q224
               go_wp2_with (first | ((with_reducible refine gate_dst (N := 81) rfl ?_); refine Kd.R_lit (Kd.int .i64) _ 3 ?hg (N := 81) ?hd (xs := ([] : List Int)) (inner := []) (ok := fun _ => True) (okp := fun _ => True) ?hr ?hp (fun _ hk => hk) trivial (Below.refl _ _) (Nat.le_refl _) (by simp) ?_; (case hd => rfl); (case hg => rfl); (case hr => first | (go_simp; done) | (go_simp; rfl)); (case hp => exact (Reps.none _ _)); intro v229 w57 ho58 hb hg_ hnew_; clear hg_ hnew_; (first | rw [← Ny228.out] at ho58 | (simp only [Int.reduceToNat] at ho58; rw [← Ny228.out] at ho58)); have n0_ := Aside0.mk (Kd.Q_elder' zq19_5 (Kd.R_base ho58) hb); have n1_ := Aside0.mk (Kd.R_lower (Kd.R_new' ho58 (Kd.Q_lt zq19_5)) (below_size zq19_0)); have n2_ := Aside0.mk (blk_below (g := gb196) (o := .cells #[.int .i64 a0_0, .slice A0_1 l0_1.length c0_1] 30 (0, 0)) zq19_3 hb); have n3_ := Aside0.mk (blk_below (g := gb197) (o := .cells #[.int .i64 0, .slice none 0 0] 30 (0, 0)) zq19_4 hb); have n4_ := Aside0.mk (below_step zq19_0 hb); clear HO_5; clear BK196; clear BK197; clear HB; have HO_5 := n0_; have HO230 := n1_; have BK196 := n2_; have BK197 := n3_; have HB := n4_; clear n0_ n1_ n2_ n3_ n4_; clear hb ho58) | ((with_reducible refine gate_builtin (b := .append) (xs := #[.tmp 81, .tmp 82]) rfl ?_); at_builtin; refine Kd.R_append_rows (Kd.int .i64) (w0 := w) w.heap.size rfl (.tmp 81) (.tmp 82) 22 3 (.int .i64 0) 8 rfl Try.underlying22 info3 rfl (by decide) (by omega) v229 y228 x5_4 _ _ _ (fun k_ => some k_ ≠ (.slice (some ad224) x5_4.length co56 : Value).ownBlock) (fun _ => False) rfl rfl ?aO ?aR (fun _ _ h => h) (fun _ h => h.elim) ?aF ?aB ?aS ?aL ?_; (case aR => repeat (first | exact (Kd.Q_reads' HO_5.out).2.2 | (with_reducible refine Kd.C_alloc ?_ _) | (with_reducible refine Kd.C_drewN ?_ _) | (with_reducible refine Kd.C_drew ?_))); (case aB => exact zq19_0); (case aF => exact (fun k_ hk => Kd.fresh' (Kd.Q_lt zq19_5) k_ hk)); (case aO => exact (by (with_reducible repeat (first | apply Kd.R_alloc | apply Kd.R_drewN | apply Kd.R_drew)); exact Kd.R_mono HO230.out (fun _ hk => hk.2))); (case aS => exact (below_size zq19_0)); (case aL => have := LMc55.out; omega); intro v232 w59 ho hb hg hat; rw [← Ny231.out] at ho; have n0_ := Aside0.mk (Kd.Q_after (ok := (fun _ => True)) zq19_5 hg hat); have n1_ := Aside0.mk (blk_grown (g := gb196) (o := .cells #[.int .i64 a0_0, .slice A0_1 l0_1.length c0_1] 30 (0, 0)) zq19_3 hg (Kd.R_ne HO230.out BK196.out (by decide))); have n2_ := Aside0.mk (blk_grown (g := gb197) (o := .cells #[.int .i64 0, .slice none 0 0] 30 (0, 0)) zq19_4 hg (Kd.R_ne HO230.out BK197.out (by decide))); have n3_ := Aside0.mk (hb); have n4_ := Aside0.mk (ho); clear HO_5; clear BK196; clear BK197; clear HB; clear HO230; have HO_5 := n0_; have BK196 := n1_; have BK197 := n2_; have HB := n3_; have HO233 := n4_; clear n0_ n1_ n2_ n3_ n4_; clear ho hb hg hat; obtain ⟨Ao60, co60, eo60⟩ := Kd.R_slice HO233.out; subst eo60; have hnb61 := NB197_196.out; have hnc61 := NB196_197.out; have hcz62_0 : w59.cell? ⟨gb197, 0, none⟩ = some (.int .i64 0) := (blk_cell BK197.out 0).trans rfl; have hcz62_1 : w59.cell? ⟨gb197, 1, none⟩ = some (.slice none 0 0) := (blk_cell BK197.out 1).trans rfl; have hfz62_0 := blk_frozen BK197.out 0; have hfz62_1 := blk_frozen BK197.out 1))
               refine bodyPost_ret (results_cell_row rfl _ _ gb197 30 #[.int .i64 x8_4, .slice Ao60 y231.length co60] (0, 0) _ rfl (by (with_reducible repeat (first | refine blk_drewN ?_ _ | refine blk_drew ?_ | refine blk_alloc ?_ _)); refine blk_put (cs := #[.int .i64 x8_4, .slice none 0 0]) ?_ 1 _ rfl; (with_reducible repeat (first | refine blk_drewN ?_ _ | refine blk_drew ?_ | refine blk_alloc ?_ _)); refine blk_put (cs := #[.int .i64 0, .slice none 0 0]) ?_ 0 _ rfl; (with_reducible repeat (first | refine blk_drewN ?_ _ | refine blk_drew ?_ | refine blk_alloc ?_ _)); exact BK197.out) Try.underlying30 rfl (by kernel_rfl)) rfl ?_
               exact ⟨_, by first | rfl | (simp [errW_none, errW_some] <;> rfl) | (simp [*, errW_none, errW_some] <;> rfl), by (with_reducible repeat (first | apply Kd.R_alloc | apply Kd.R_drewN | apply Kd.R_drew)); exact Kd.R_mono (Kd.R_far (p := ⟨gb197, 1, none⟩) (Kd.R_far (p := ⟨gb197, 0, none⟩) (Kd.R_types HO233.out BK197.out (by decide)) (fun _ hk => hk.2) (.int .i64 x8_4)) (fun _ hk => hk.2) (.slice Ao60 y231.length co60)) (fun _ hk => trivial), by repeat (first | (with_reducible first | exact HB.out | apply below_alloc | apply pw_below_drewN | apply below_drew1 | refine below_set ?_ GE196.out | refine below_set ?_ GE197.out) | exact HB.out)⟩
              ·rw [if_neg c55] at H
               exact absurd H (by simp)
            ·rw [if_neg c50] at H
             exact absurd H (by simp)
           ·rw [if_neg c49] at H
            have c49b0 : decide (0 < (x5_4.length : Int)) = false := decide_eq_false c49
            have c49b1 : decide (0 < x5_4.length) = false := decide_eq_false (by omega)
            clear c49
            obtain ⟨y234, hy234⟩ : ∃ y_ : List Int, y_ = (([] : List Int)) := ⟨_, rfl⟩
            replace H : (if y234.length + x5_4.length < 17592186044416 then (some (x8_4, (y234 ++ x5_4))) else (none)) = some (r1, r2) := by first | (rw [hy234]; with_reducible exact H) | (have H2_ := (Option.bind_some _ _).symm.trans H; rw [hy234]; with_reducible exact H2_) | (have H2_ := (Option.bind_some _ _).symm.trans H; with_reducible exact H2_) | with_reducible exact H | (rw [hy234]; exact H) | exact H
            have Ny234 := Aside0.mk hy234
            clear hy234
            by_cases c63 : y234.length + x5_4.length < 17592186044416
            ·rw [if_pos c63] at H
             have LMc63 := Aside0.mk c63
             clear c63
             obtain ⟨y237, hy237⟩ : ∃ y_ : List Int, y_ = (y234 ++ x5_4) := ⟨_, rfl⟩
             replace H : (some (x8_4, y237)) = some (r1, r2) := by first | (rw [hy237]; with_reducible exact H) | (have H2_ := (Option.bind_some _ _).symm.trans H; rw [hy237]; with_reducible exact H2_) | (have H2_ := (Option.bind_some _ _).symm.trans H; with_reducible exact H2_) | with_reducible exact H | (rw [hy237]; exact H) | exact H
             have Ny237 := Aside0.mk hy237
             clear hy237
             simp only [Option.some.injEq, Prod.mk.injEq] at H
             obtain ⟨rfl, rfl⟩ := H
             obtain ⟨Ao64, co64, eo64, _⟩ := Kd.Q_slice HO_5.out
             subst eo64
             go_wp2_with (first | ((with_reducible refine gate_dst (N := 81) rfl ?_); refine Kd.R_lit (Kd.int .i64) _ 3 ?hg (N := 81) ?hd (xs := ([] : List Int)) (inner := []) (ok := fun _ => True) (okp := fun _ => True) ?hr ?hp (fun _ hk => hk) trivial (Below.refl _ _) (Nat.le_refl _) (by simp) ?_; (case hd => rfl); (case hg => rfl); (case hr => first | (go_simp; done) | (go_simp; rfl)); (case hp => exact (Reps.none _ _)); intro v235 w65 ho66 hb hg_ hnew_; clear hg_ hnew_; (first | rw [← Ny234.out] at ho66 | (simp only [Int.reduceToNat] at ho66; rw [← Ny234.out] at ho66)); have n0_ := Aside0.mk (Kd.Q_elder' zq19_5 (Kd.R_base ho66) hb); have n1_ := Aside0.mk (Kd.R_lower (Kd.R_new' ho66 (Kd.Q_lt zq19_5)) (below_size zq19_0)); have n2_ := Aside0.mk (blk_below (g := gb196) (o := .cells #[.int .i64 a0_0, .slice A0_1 l0_1.length c0_1] 30 (0, 0)) zq19_3 hb); have n3_ := Aside0.mk (blk_below (g := gb197) (o := .cells #[.int .i64 0, .slice none 0 0] 30 (0, 0)) zq19_4 hb); have n4_ := Aside0.mk (below_step zq19_0 hb); clear HO_5; clear BK196; clear BK197; clear HB; have HO_5 := n0_; have HO236 := n1_; have BK196 := n2_; have BK197 := n3_; have HB := n4_; clear n0_ n1_ n2_ n3_ n4_; clear hb ho66) | ((with_reducible refine gate_builtin (b := .append) (xs := #[.tmp 81, .tmp 82]) rfl ?_); at_builtin; refine Kd.R_append_rows (Kd.int .i64) (w0 := w) w.heap.size rfl (.tmp 81) (.tmp 82) 22 3 (.int .i64 0) 8 rfl Try.underlying22 info3 rfl (by decide) (by omega) v235 y234 x5_4 _ _ _ (fun k_ => some k_ ≠ (.slice Ao64 x5_4.length co64 : Value).ownBlock) (fun _ => False) rfl rfl ?aO ?aR (fun _ _ h => h) (fun _ h => h.elim) ?aF ?aB ?aS ?aL ?_; (case aR => repeat (first | exact (Kd.Q_reads' HO_5.out).2.2 | (with_reducible refine Kd.C_alloc ?_ _) | (with_reducible refine Kd.C_drewN ?_ _) | (with_reducible refine Kd.C_drew ?_))); (case aB => exact zq19_0); (case aF => exact (fun k_ hk => Kd.fresh' (Kd.Q_lt zq19_5) k_ hk)); (case aO => exact (by (with_reducible repeat (first | apply Kd.R_alloc | apply Kd.R_drewN | apply Kd.R_drew)); exact Kd.R_mono HO236.out (fun _ hk => hk.2))); (case aS => exact (below_size zq19_0)); (case aL => have := LMc63.out; omega); intro v238 w67 ho hb hg hat; rw [← Ny237.out] at ho; have n0_ := Aside0.mk (Kd.Q_after (ok := (fun _ => True)) zq19_5 hg hat); have n1_ := Aside0.mk (blk_grown (g := gb196) (o := .cells #[.int .i64 a0_0, .slice A0_1 l0_1.length c0_1] 30 (0, 0)) zq19_3 hg (Kd.R_ne HO236.out BK196.out (by decide))); have n2_ := Aside0.mk (blk_grown (g := gb197) (o := .cells #[.int .i64 0, .slice none 0 0] 30 (0, 0)) zq19_4 hg (Kd.R_ne HO236.out BK197.out (by decide))); have n3_ := Aside0.mk (hb); have n4_ := Aside0.mk (ho); clear HO_5; clear BK196; clear BK197; clear HB; clear HO236; have HO_5 := n0_; have BK196 := n1_; have BK197 := n2_; have HB := n3_; have HO239 := n4_; clear n0_ n1_ n2_ n3_ n4_; clear ho hb hg hat; obtain ⟨Ao68, co68, eo68⟩ := Kd.R_slice HO239.out; subst eo68; have hnb69 := NB197_196.out; have hnc69 := NB196_197.out; have hcz70_0 : w67.cell? ⟨gb197, 0, none⟩ = some (.int .i64 0) := (blk_cell BK197.out 0).trans rfl; have hcz70_1 : w67.cell? ⟨gb197, 1, none⟩ = some (.slice none 0 0) := (blk_cell BK197.out 1).trans rfl; have hfz70_0 := blk_frozen BK197.out 0; have hfz70_1 := blk_frozen BK197.out 1))
             refine bodyPost_ret (results_cell_row rfl _ _ gb197 30 #[.int .i64 x8_4, .slice Ao68 y237.length co68] (0, 0) _ rfl (by (with_reducible repeat (first | refine blk_drewN ?_ _ | refine blk_drew ?_ | refine blk_alloc ?_ _)); refine blk_put (cs := #[.int .i64 x8_4, .slice none 0 0]) ?_ 1 _ rfl; (with_reducible repeat (first | refine blk_drewN ?_ _ | refine blk_drew ?_ | refine blk_alloc ?_ _)); refine blk_put (cs := #[.int .i64 0, .slice none 0 0]) ?_ 0 _ rfl; (with_reducible repeat (first | refine blk_drewN ?_ _ | refine blk_drew ?_ | refine blk_alloc ?_ _)); exact BK197.out) Try.underlying30 rfl (by kernel_rfl)) rfl ?_
             exact ⟨_, by first | rfl | (simp [errW_none, errW_some] <;> rfl) | (simp [*, errW_none, errW_some] <;> rfl), by (with_reducible repeat (first | apply Kd.R_alloc | apply Kd.R_drewN | apply Kd.R_drew)); exact Kd.R_mono (Kd.R_far (p := ⟨gb197, 1, none⟩) (Kd.R_far (p := ⟨gb197, 0, none⟩) (Kd.R_types HO239.out BK197.out (by decide)) (fun _ hk => hk.2) (.int .i64 x8_4)) (fun _ hk => hk.2) (.slice Ao68 y237.length co68)) (fun _ hk => trivial), by repeat (first | (with_reducible first | exact HB.out | apply below_alloc | apply pw_below_drewN | apply below_drew1 | refine below_set ?_ GE196.out | refine below_set ?_ GE197.out) | exact HB.out)⟩
            ·rw [if_neg c63] at H
             exact absurd H (by simp)

/-! ### cenotaphref02_Fix: function 17 -/
theorem zq17_0 {p_ : Prop} (h_ : p_ := by repeat (first | (with_reducible first | exact HB.out | apply below_alloc | apply pw_below_drewN | apply below_drew1 | refine below_set ?_ GE240.out | refine below_set ?_ GE241.out) | exact HB.out)) : p_ := h_
theorem zq17_1 {p_ : Prop} (h_ : p_ := by repeat (first | (with_reducible first | exact HB.out | apply below_alloc | apply pw_below_drewN | apply below_drew1 | refine below_set ?_ GE240.out) | exact HB.out)) : p_ := h_
theorem zq17_2 {p_ : Prop} (h_ : p_ := by repeat (first | (with_reducible first | exact HB.out | apply below_alloc | apply pw_below_drewN | apply below_drew1) | exact HB.out)) : p_ := h_
theorem zq17_3 {p_ : Prop} (h_ : p_ := by (with_reducible repeat (first | refine blk_drewN ?_ _ | refine blk_drew ?_ | refine blk_alloc ?_ _)); exact BK240.out) : p_ := h_
theorem zq17_4 {p_ : Prop} (h_ : p_ := by (with_reducible repeat (first | refine blk_drewN ?_ _ | refine blk_drew ?_ | refine blk_alloc ?_ _)); exact BK241.out) : p_ := h_
def cenotaphref02_Fix.l0 : Nat → Int → Int → List Int → Int → List Int → Option (Int × List Int)
 | 0, _, _, _, _, _ => none
 | k + 1, x4, x241000, x241001, x243000, x243001 => if x4 < (x241001.length : Int) then (if x4 < 30 then (if 0 ≤ x4 then ((cenotaphref02_Add.f k x243000 x243001 (wrap64 (1 + (wrap64 (Int.tmod (IntKind.u64.wrap (rd x241001 x4)) 60))))).bind fun bt244 => (cenotaphref02_Fix.l0 k (wrap64 (x4 + 1)) x241000 x241001 bt244.1 bt244.2)) else (none)) else (some (x243000, x243001))) else (some (x243000, x243001))
def cenotaphref02_Fix.f (k : Nat) (a0_0 : Int) (l0_1 : List Int) : Option (Int × List Int) := cenotaphref02_Fix.l0 k 0 a0_0 l0_1 (wrap64 (Int.tmod (IntKind.u64.wrap (a0_0)) 40)) ([] : List Int)
theorem cenotaphref02_Fix.mono_l : ∀ k, (∀ y0 y1 y2 y3 y4, LeO (cenotaphref02_Fix.l0 k y0 y1 y2 y3 y4) (cenotaphref02_Fix.l0 (k + 1) y0 y1 y2 y3 y4))
 | 0 => fun _ _ _ _ _ r h => by simp [cenotaphref02_Fix.l0] at h
 | k + 1 => by
  have ih0 := cenotaphref02_Fix.mono_l k
  ·intro y0 y1 y2 y3 y4
   unfold cenotaphref02_Fix.l0
   repeat' first
   | (with_reducible exact ih0 _ _ _ _ _)
   | (with_reducible exact cenotaphref02_Add.mono _ _ _ _)
   | (with_reducible exact LeO.refl _)
   | (with_reducible exact LeO.none _)
   | (with_reducible refine LeO.ite ?_ ?_)
   | (with_reducible refine LeO.bind ?_ (fun _ => ?_))
   | exact ih0 _ _ _ _ _
   | exact cenotaphref02_Add.mono _ _ _ _
   | exact LeO.none _
   | refine LeO.ite ?_ ?_
   | refine LeO.bind ?_ (fun _ => ?_)
theorem cenotaphref02_Fix.mono : ∀ a0 a1 k, LeO (cenotaphref02_Fix.f k a0 a1) (cenotaphref02_Fix.f (k + 1) a0 a1) := by
 intro a0 a1 k
 have ih0 := cenotaphref02_Fix.mono_l k
 unfold cenotaphref02_Fix.f
 repeat' first
   | (with_reducible exact ih0 _ _ _ _ _)
   | (with_reducible exact cenotaphref02_Add.mono _ _ _ _)
   | (with_reducible exact LeO.refl _)
   | (with_reducible exact LeO.none _)
   | (with_reducible refine LeO.ite ?_ ?_)
   | (with_reducible refine LeO.bind ?_ (fun _ => ?_))
   | exact ih0 _ _ _ _ _
   | exact cenotaphref02_Add.mono _ _ _ _
   | exact LeO.none _
   | refine LeO.ite ?_ ?_
   | refine LeO.bind ?_ (fun _ => ?_)
def cenotaphref02_Fix.T5 : Bool × List (List Nat × List Nat) := (true, [([], []), ([], []), ([1], [1]), ([], []), ([2, 3], [2, 3]), ([4], [4]), ([5], [5]), ([6], [6]), ([7], [7]), ([8], [8]), ([0, 9], [0, 9]), ([10, 10, 0, 1, 2, 3, 4, 5, 6, 7, 8, 9, 10], [10])])
def cenotaphref02_Fix.B5 : List Nat := [0, 0, 2, 0, 14, 30, 62, 126, 254, 510, 1023, 2047]
theorem cenotaphref02_Fix.tab5 : rtab .any (opsOf Try.f17 5) = cenotaphref02_Fix.T5 := by kernel_rfl
theorem cenotaphref02_Fix.bits5 : waitsOk cenotaphref02_Fix.T5.2 cenotaphref02_Fix.B5 = true := by kernel_rfl
set_option maxHeartbeats 8000000 in
set_option maxRecDepth 100000 in
theorem cenotaphref02_Fix.calls (k : Nat) (a0_0 : Int) (A0_1 : Option Addr) (c0_1 : Nat) (l0_1 : List Int) (r1 : Int) (r2 : List Int) (w : World) (hr0_1 : Kd.C (Kd.int .i64) w A0_1 l0_1.length l0_1) (hc0_1 : l0_1.length ≤ c0_1) (h : cenotaphref02_Fix.f k a0_0 l0_1 = some (r1, r2)) :
  Calls Try.prog 17 #[.agg #[.int .i64 a0_0, .slice A0_1 l0_1.length c0_1]] w fun e w' => ∃ v1_ : Value, e = .returned (.agg #[.int .i64 r1, v1_]) ∧ Kd.R (Kd.int .i64) 3 w' w.heap.size (fun _ => True) v1_ r2 ∧ Below w.heap.size w w' := by
 have hu30 := Try.underlying30
 have HR0_1 := Aside0.mk hr0_1
 have HC0_1 := Aside0.mk hc0_1
 clear hr0_1 hc0_1
 have HB := Aside0.mk (Below.refl w.heap.size w)
 have H : (cenotaphref02_Fix.l0 k 0 a0_0 l0_1 (wrap64 (Int.tmod (IntKind.u64.wrap (a0_0)) 40)) ([] : List Int)) = some (r1, r2) := h
 clear h
 have H' := Aside0.mk H
 clear H
 go_enter Try.func17, Try.ntmps17
 go_wp2_with (first | ((with_reducible refine gate_dst (N := 1) rfl ?_); refine box_event ?hg (N := 1) ?hd (cs := #[.int .i64 a0_0, .slice A0_1 l0_1.length c0_1]) (t := 30) ?hr ?_; (case hd => rfl); (case hg => rfl); (case hr => first | (go_simp; done) | (go_simp; rfl)); intro gb240 hg w2 hbox hb; have n0_ := Aside0.mk (below_step zq17_2 hb); have n1_ := Aside0.mk (hbox); have n2_ := Aside0.mk (((by rw [hg]; exact (below_size zq17_2)) : w.heap.size ≤ gb240)); have n3_ := Aside0.mk (((by rw [hg]; exact (below_size zq17_2)) : w.heap.size ≤ gb240)); clear HB; have HB := n0_; have BK240 := n1_; have GW240 := n2_; have GE240 := n3_; clear n0_ n1_ n2_ n3_; clear hb hbox hg) | ((with_reducible refine gate_dst (N := 2) rfl ?_); refine box_event ?hg (N := 2) ?hd (cs := #[.int .i64 0, .slice none 0 0]) (t := 30) ?hr ?_; (case hd => rfl); (case hg => rfl); (case hr => first | (go_simp; done) | (go_simp; rfl)); intro gb241 hg w3 hbox hb; have n0_ := Aside0.mk (blk_below (g := gb240) (o := .cells #[.int .i64 a0_0, .slice A0_1 l0_1.length c0_1] 30 (0, 0)) zq17_3 hb); have n1_ := Aside0.mk (below_step zq17_1 hb); have n2_ := Aside0.mk (hbox); have n3_ := Aside0.mk (((by rw [hg]; exact (below_size zq17_1)) : w.heap.size ≤ gb241)); have n4_ := Aside0.mk (((by rw [hg]; exact (below_size zq17_1)) : w.heap.size ≤ gb241)); have n5_ := Aside0.mk (((by rw [hg]; exact Nat.ne_of_lt (blk_lt (g := gb240) (o := .cells #[.int .i64 a0_0, .slice A0_1 l0_1.length c0_1] 30 (0, 0)) zq17_3)) : gb240 ≠ gb241)); have n6_ := Aside0.mk (((by rw [hg]; exact Nat.ne_of_gt (blk_lt (g := gb240) (o := .cells #[.int .i64 a0_0, .slice A0_1 l0_1.length c0_1] 30 (0, 0)) zq17_3)) : gb241 ≠ gb240)); clear BK240; clear HB; have BK240 := n0_; have HB := n1_; have BK241 := n2_; have GW241 := n3_; have GE241 := n4_; have NB240_241 := n5_; have NB241_240 := n6_; clear n0_ n1_ n2_ n3_ n4_ n5_ n6_; clear hb hbox hg; have hnb4 := NB240_241.out; have hnc4 := NB241_240.out; have hcz5_0 : w3.cell? ⟨gb240, 0, none⟩ = some (.int .i64 a0_0) := (blk_cell BK240.out 0).trans rfl; have hcz5_1 : w3.cell? ⟨gb240, 1, none⟩ = some (.slice A0_1 l0_1.length c0_1) := (blk_cell BK240.out 1).trans rfl; have hfz5_0 := blk_frozen BK240.out 0; have hfz5_1 := blk_frozen BK240.out 1) | ((with_reducible refine gate_dst (N := 3) rfl ?_); refine box_event ?hg (N := 3) ?hd (cs := #[.int .i64 0, .slice none 0 0]) (t := 30) ?hr ?_; (case hd => rfl); (case hg => rfl); (case hr => first | (go_simp; done) | (go_simp; rfl)); intro gb242 hg w6 hbox hb; have n0_ := Aside0.mk (blk_below (g := gb240) (o := .cells #[.int .i64 a0_0, .slice A0_1 l0_1.length c0_1] 30 (0, 0)) zq17_3 hb); have n1_ := Aside0.mk (blk_below (g := gb241) (o := .cells #[.int .i64 0, .slice none 0 0] 30 (0, 0)) zq17_4 hb); have n2_ := Aside0.mk (below_step zq17_0 hb); have n3_ := Aside0.mk (hbox); have n4_ := Aside0.mk (((by rw [hg]; exact (below_size zq17_0)) : w.heap.size ≤ gb242)); have n5_ := Aside0.mk (((by rw [hg]; exact (below_size zq17_0)) : w.heap.size ≤ gb242)); have n6_ := Aside0.mk (((by rw [hg]; exact Nat.ne_of_lt (blk_lt (g := gb240) (o := .cells #[.int .i64 a0_0, .slice A0_1 l0_1.length c0_1] 30 (0, 0)) zq17_3)) : gb240 ≠ gb242)); have n7_ := Aside0.mk (((by rw [hg]; exact Nat.ne_of_gt (blk_lt (g := gb240) (o := .cells #[.int .i64 a0_0, .slice A0_1 l0_1.length c0_1] 30 (0, 0)) zq17_3)) : gb242 ≠ gb240)); have n8_ := Aside0.mk (((by rw [hg]; exact Nat.ne_of_lt (blk_lt (g := gb241) (o := .cells #[.int .i64 0, .slice none 0 0] 30 (0, 0)) zq17_4)) : gb241 ≠ gb242)); have n9_ := Aside0.mk (((by rw [hg]; exact Nat.ne_of_gt (blk_lt (g := gb241) (o := .cells #[.int .i64 0, .slice none 0 0] 30 (0, 0)) zq17_4)) : gb242 ≠ gb241)); clear BK240; clear BK241; clear HB; have BK240 := n0_; have BK241 := n1_; have HB := n2_; have BK242 := n3_; have GW242 := n4_; have GE242 := n5_; have NB240_242 := n6_; have NB242_240 := n7_; have NB241_242 := n8_; have NB242_241 := n9_; clear n0_ n1_ n2_ n3_ n4_ n5_ n6_ n7_ n8_ n9_; clear hb hbox hg; have hnb7 := NB242_240.out; have hnc7 := NB240_242.out; have hnb8 := NB242_241.out; have hnc8 := NB241_242.out; have hcz9_0 : w6.cell? ⟨gb242, 0, none⟩ = some (.int .i64 0) := (blk_cell BK242.out 0).trans rfl; have hcz9_1 : w6.cell? ⟨gb242, 1, none⟩ = some (.slice none 0 0) := (blk_cell BK242.out 1).trans rfl; have hfz9_0 := blk_frozen BK242.out 0; have hfz9_1 := blk_frozen BK242.out 1))
 go_loopg [4] k (fun kq v4 w' => ∃ (x4_1 : Int) (x243000_1 : Int) (x243001_1 : List Int) (u243001 : Value), v4 = .int .i64 x4_1 ∧ Aside0 (cenotaphref02_Fix.l0 kq x4_1 a0_0 l0_1 x243000_1 x243001_1 = some (r1, r2)) ∧ Aside0 (kq ≤ k) ∧ Aside0 (Kd.R (Kd.int .i64) 3 w' w.heap.size (fun _ => True) u243001 x243001_1) ∧ Aside0 (w'.heap[gb240]? = some (.cells #[.int .i64 a0_0, (.slice A0_1 l0_1.length c0_1)] 30 (0, 0))) ∧ Aside0 (w'.heap[gb241]? = some (.cells #[.int .i64 0, (.slice none 0 0)] 30 (0, 0))) ∧ Aside0 (w'.heap[gb242]? = some (.cells #[.int .i64 x243000_1, u243001] 30 (0, 0))) ∧ Aside0 (Below w.heap.size w w'))
 case atStart => exact ⟨(0), (wrap64 (Int.tmod (IntKind.u64.wrap (a0_0)) 40)), (([] : List Int)), (.slice none 0 0), (by first | rfl | (simp; done) | (simp [*]; done)), H', ⟨Nat.le_refl _⟩, ⟨by first | exact Kd.R_nil _ _ _ _ _ | exact Kd.N_nil _ _ _ _ _ | exact Kd.V_nil _ _ _ _ _ | exact Kd.Q_nil _ _ _ _ _ | exact Kd.S_nil _ _ _ _ _⟩, ⟨by (with_reducible repeat (first | refine blk_drewN ?_ _ | refine blk_drew ?_ | refine blk_alloc ?_ _)); refine blk_far ?_ NB240_242.out _; (with_reducible repeat (first | refine blk_drewN ?_ _ | refine blk_drew ?_ | refine blk_alloc ?_ _)); refine blk_far ?_ NB240_242.out _; (with_reducible repeat (first | refine blk_drewN ?_ _ | refine blk_drew ?_ | refine blk_alloc ?_ _)); exact BK240.out⟩, ⟨by (with_reducible repeat (first | refine blk_drewN ?_ _ | refine blk_drew ?_ | refine blk_alloc ?_ _)); refine blk_far ?_ NB241_242.out _; (with_reducible repeat (first | refine blk_drewN ?_ _ | refine blk_drew ?_ | refine blk_alloc ?_ _)); refine blk_far ?_ NB241_242.out _; (with_reducible repeat (first | refine blk_drewN ?_ _ | refine blk_drew ?_ | refine blk_alloc ?_ _)); exact BK241.out⟩, ⟨by (with_reducible repeat (first | refine blk_drewN ?_ _ | refine blk_drew ?_ | refine blk_alloc ?_ _)); refine blk_put (cs := #[.int .i64 (wrap64 (Int.tmod (IntKind.u64.wrap (a0_0)) 40)), .slice none 0 0]) ?_ 1 _ rfl; (with_reducible repeat (first | refine blk_drewN ?_ _ | refine blk_drew ?_ | refine blk_alloc ?_ _)); refine blk_put (cs := #[.int .i64 0, .slice none 0 0]) ?_ 0 _ rfl; (with_reducible repeat (first | refine blk_drewN ?_ _ | refine blk_drew ?_ | refine blk_alloc ?_ _)); exact BK242.out⟩, ⟨by repeat (first | (with_reducible first | exact HB.out | apply below_alloc | apply pw_below_drewN | apply below_drew1 | refine below_set ?_ GE240.out | refine below_set ?_ GE241.out | refine below_set ?_ GE242.out) | exact HB.out)⟩⟩
 case round =>
  clear H'
  try clear c1
  try clear p2
  try clear c4
  try clear p6
  try clear c7
  try clear c8
  try clear hcz5_0
  try clear hcz5_1
  try clear hcz9_0
  try clear hcz9_1
  try clear hfz5_0
  try clear hfz5_1
  try clear hfz9_0
  try clear hfz9_1
  obtain ⟨x4_1, x243000_1, x243001_1, u243001, rfl, HA, HK1, HO_243001, BK240, BK241, BK242, HB⟩ := hrel
  cases gk with
  | zero => exact absurd HA.out (by simp [cenotaphref02_Fix.l0])
  | succ k1 =>
   have H := HA.out
   clear HA
   simp only [cenotaphref02_Fix.l0] at H
   by_cases c10 : x4_1 < (l0_1.length : Int)
   ·rw [if_pos c10] at H
    have c10b0 : decide (x4_1 < (l0_1.length : Int)) = true := decide_eq_true c10
    clear c10
    by_cases c11 : x4_1 < 30
    ·rw [if_pos c11] at H
     have c11b0 : decide (x4_1 < 30) = true := decide_eq_true c11
     clear c11
     by_cases c12 : 0 ≤ x4_1
     ·rw [if_pos c12] at H
      have c12b0 : decide (0 ≤ x4_1) = true := decide_eq_true c12
      clear c12
      replace H := Option.bind_eq_some_iff.mp H
      obtain ⟨⟨t244, t245⟩, A130, H⟩ := H
      replace H : (cenotaphref02_Fix.l0 k1 (wrap64 (x4_1 + 1)) a0_0 l0_1 t244 t245) = some (r1, r2) := H
      have A13 := Aside0.mk A130
      clear A130
      have H' := Aside0.mk H
      clear H
      have hnb14 := NB240_241.out
      have hnc14 := NB241_240.out
      have hnb15 := NB240_242.out
      have hnc15 := NB242_240.out
      have hcz16_0 : wr.cell? ⟨gb240, 0, none⟩ = some (.int .i64 a0_0) := (blk_cell BK240.out 0).trans rfl
      have hcz16_1 : wr.cell? ⟨gb240, 1, none⟩ = some (.slice A0_1 l0_1.length c0_1) := (blk_cell BK240.out 1).trans rfl
      have hfz16_0 := blk_frozen BK240.out 0
      have hfz16_1 := blk_frozen BK240.out 1
      try go_wp2
      replace HO_243001 := Aside0.mk (Kd.R_drew HO_243001.out)
      replace BK240 := Aside0.mk (blk_drew BK240.out)
      replace BK241 := Aside0.mk (blk_drew BK241.out)
      replace BK242 := Aside0.mk (blk_drew BK242.out)
      replace HB := Aside0.mk (below_drew1 HB.out)
      have p243 : 0 ≤ (x4_1 : Int) := of_decide_eq_true (by first | (with_reducible assumption) | assumption)
      have q243 : x4_1 < (l0_1.length : Int) := of_decide_eq_true (by first | (with_reducible assumption) | assumption)
      obtain ⟨ad243, e243, hx243_0⟩ := Kd.at_int HR0_1.out x4_1 p243 q243
      have hw243_0 := hx243_0
      cases e243
      replace hx243_0 := (HB.out.cell (World.block_lt_of_cell? w _ hx243_0)).trans hx243_0
      replace p243 := eq_true p243
      replace q243 := eq_true q243
      obtain ⟨Ao18, co18, eo18⟩ := Kd.R_slice HO_243001.out
      (first | subst eo18 | (injection eo18 with f1_ f2_ f3_; have f4_ := f1_.symm; have f5_ := f3_.symm; clear f1_ f2_ f3_; subst f4_; subst f5_))
      refine start_ (n := 12) (S := fun w' => w'.cell? ⟨gb242, 0, none⟩ = some (.int .i64 x243000_1) ∧ w'.cell? ⟨gb242, 1, none⟩ = some (.slice Ao18 x243001_1.length co18) ∧ w'.cell? ⟨gb240, 0, none⟩ = some (.int .i64 a0_0) ∧ w'.cell? ⟨gb240, 1, none⟩ = some (.slice (some ad243) l0_1.length c0_1) ∧ w'.cell? (ad243.add (x4_1).toNat) = some (.int .i64 (rd l0_1 x4_1))) (ds := [11]) #[false, false, false, false, false, false, false, false, false, false, false, false] (by kernel_rfl) rfl rfl ⟨(blk_cell BK242.out 0).trans rfl, (blk_cell BK242.out 1).trans rfl, (blk_cell BK240.out 0).trans rfl, (blk_cell BK240.out 1).trans rfl, ((HB.out.cell (World.block_lt_of_cell? w _ hw243_0)).trans hw243_0)⟩ (fun hHeld => ?_); refine with_tabW cenotaphref02_Fix.tab5 cenotaphref02_Fix.bits5 (fun HT_ HW_ => ?_)
      generalize wr.drew = w17 at HO_243001 BK240 BK241 BK242 HB hx243_0 hHeld ⊢
      refine pure_ (i := 1) (N := some 23) (v := ?_) (a' := ?_) #[false, true, false, false, false, false, false, false, false, false, false, false] rfl rfl (any_of HT_.out (by kernel_rfl)) (fun _ _ _ h => h) (Or.inl ⟨by rfl, ?_⟩) ?_ ?_
      rotate_left
      ·intro w'
       go_simp
       with_reducible rfl
      rotate_left
      ·simp only [Act.put, List.setIfInBounds_toArray, List.set_cons_zero, List.set_cons_succ, i64_w, i32_w]
       rfl
      refine pure_ (i := 3) (N := some 25) (v := ?_) (a' := ?_) #[false, true, false, true, false, false, false, false, false, false, false, false] rfl rfl (any_of HT_.out (by kernel_rfl)) (fun _ _ _ h => h) (Or.inl ⟨by rfl, ?_⟩) ?_ ?_
      rotate_left
      ·intro w'
       go_simp
       with_reducible rfl
      rotate_left
      ·simp only [Act.put, List.setIfInBounds_toArray, List.set_cons_zero, List.set_cons_succ, i64_w, i32_w]
       rfl
      refine take_ (i := 0) (N := some 22) (v := ?_) (a' := ?_) #[true, true, false, true, false, false, false, false, false, false, false, false] rfl rfl (take_ofW HT_.out HW_.out (by kernel_rfl)) (fun _ _ _ h => h) (Or.inl ⟨by rfl, ?_⟩) hHeld ?_ ?_
      rotate_left
      ·rintro w' ⟨s0, s1, s2, s3, s4⟩
       go_simp
       with_reducible rfl
      rotate_left
      ·simp only [Act.put, List.setIfInBounds_toArray, List.set_cons_zero, List.set_cons_succ, i64_w, i32_w]
       rfl
      refine take_ (i := 2) (N := some 24) (v := ?_) (a' := ?_) #[true, true, true, true, false, false, false, false, false, false, false, false] rfl rfl (take_ofW HT_.out HW_.out (by kernel_rfl)) (fun _ _ _ h => h) (Or.inl ⟨by rfl, ?_⟩) hHeld ?_ ?_
      rotate_left
      ·rintro w' ⟨s0, s1, s2, s3, s4⟩
       go_simp
       with_reducible rfl
      rotate_left
      ·simp only [Act.put, List.setIfInBounds_toArray, List.set_cons_zero, List.set_cons_succ, i64_w, i32_w]
       rfl
      refine pure_ (i := 4) (N := some 26) (v := ?_) (a' := ?_) #[true, true, true, true, true, false, false, false, false, false, false, false] rfl rfl (any_of HT_.out (by kernel_rfl)) (fun _ _ _ h => h) (Or.inl ⟨by rfl, ?_⟩) ?_ ?_
      rotate_left
      ·intro w'
       go_simp
       with_reducible rfl
      rotate_left
      ·simp only [Act.put, List.setIfInBounds_toArray, List.set_cons_zero, List.set_cons_succ, i64_w, i32_w]
       rfl
      refine take_ (i := 5) (N := some 27) (v := ?_) (a' := ?_) #[true, true, true, true, true, true, false, false, false, false, false, false] rfl rfl (take_ofW HT_.out HW_.out (by kernel_rfl)) (fun _ _ _ h => h) (Or.inl ⟨by rfl, ?_⟩) hHeld ?_ ?_
      rotate_left
      ·rintro w' ⟨s0, s1, s2, s3, s4⟩
       go_simp
       with_reducible rfl
      rotate_left
      ·simp only [Act.put, List.setIfInBounds_toArray, List.set_cons_zero, List.set_cons_succ, i64_w, i32_w]
       rfl
      refine pure_ (i := 6) (N := some 28) (v := ?_) (a' := ?_) #[true, true, true, true, true, true, true, false, false, false, false, false] rfl rfl (any_of HT_.out (by kernel_rfl)) (fun _ _ _ h => h) (Or.inl ⟨by rfl, ?_⟩) ?_ ?_
      rotate_left
      ·intro w'
       go_simp
       with_reducible rfl
      rotate_left
      ·simp only [Act.put, List.setIfInBounds_toArray, List.set_cons_zero, List.set_cons_succ, i64_w, i32_w]
       rfl
      refine pure_ (i := 7) (N := some 29) (v := ?_) (a' := ?_) #[true, true, true, true, true, true, true, true, false, false, false, false] rfl rfl (any_of HT_.out (by kernel_rfl)) (fun _ _ _ h => h) (Or.inl ⟨by rfl, ?_⟩) ?_ ?_
      rotate_left
      ·intro w'
       go_simp
       with_reducible rfl
      rotate_left
      ·simp only [Act.put, List.setIfInBounds_toArray, List.set_cons_zero, List.set_cons_succ, i64_w, i32_w]
       rfl
      refine pure_ (i := 8) (N := some 30) (v := ?_) (a' := ?_) #[true, true, true, true, true, true, true, true, true, false, false, false] rfl rfl (any_of HT_.out (by kernel_rfl)) (fun _ _ _ h => h) (Or.inl ⟨by rfl, ?_⟩) ?_ ?_
      rotate_left
      ·intro w'
       go_simp
       with_reducible rfl
      rotate_left
      ·simp only [Act.put, List.setIfInBounds_toArray, List.set_cons_zero, List.set_cons_succ, i64_w, i32_w]
       rfl
      refine pure_ (i := 9) (N := some 31) (v := ?_) (a' := ?_) #[true, true, true, true, true, true, true, true, true, true, false, false] rfl rfl (any_of HT_.out (by kernel_rfl)) (fun _ _ _ h => h) (Or.inl ⟨by rfl, ?_⟩) ?_ ?_
      rotate_left
      ·intro w'
       go_simp
       with_reducible rfl
      rotate_left
      ·simp only [Act.put, List.setIfInBounds_toArray, List.set_cons_zero, List.set_cons_succ, i64_w, i32_w]
       rfl
      refine one_ (i := 10) (N := some 32) #[true, true, true, true, true, true, true, true, true, true, true, false] rfl rfl (one_of HT_.out (by kernel_rfl)) (by decide) (fun K hK => ?_)
      refine goes_ Try.func19 (by kernel_rfl) rfl #[.agg #[.int .i64 x243000_1, .slice Ao18 x243001_1.length co18], .int .i64 (wrap64 (1 + (wrap64 (Int.tmod (IntKind.u64.wrap (rd l0_1 x4_1)) 60))))] (by rfl) rfl rfl (by (try simp only [List.map_toArray, List.map_cons, List.map_nil]); first | done | rfl | (simp only [List.length_drop, List.length_take]; rfl)) ?_
      with_reducible refine (cenotaphref02_Add.calls k1 x243000_1 _ _ x243001_1 (wrap64 (1 + (wrap64 (Int.tmod (IntKind.u64.wrap (rd l0_1 x4_1)) 60)))) t244 t245 _ ?side1 ?side2 A13.out).mono ?_
      (case side1 => repeat (first | exact (Kd.R_reads' HO_243001.out).2.2 | (with_reducible refine Kd.C_alloc ?_ _) | (with_reducible refine Kd.C_drewN ?_ _) | (with_reducible refine Kd.C_drew ?_)))
      (case side2 => exact (Kd.R_reads' HO_243001.out).2.1)
      rintro e w19 ⟨v246, rfl, ho0, hb⟩
      refine ⟨_, rfl, ?_⟩
      have HO247 := Aside0.mk (Kd.R_lower (Kd.R_new' ho0 (Kd.R_lt (by (with_reducible repeat (first | apply Kd.R_alloc | apply Kd.R_drewN | apply Kd.R_drew)); exact HO_243001.out))) (below_size (by repeat (first | (with_reducible first | exact HB.out | apply below_alloc | apply pw_below_drewN | apply below_drew1 | refine below_set ?_ GE240.out | refine below_set ?_ GE241.out | refine below_set ?_ GE242.out) | exact HB.out))))
      replace HO_243001 := Aside0.mk (Kd.R_elder' (by (with_reducible repeat (first | apply Kd.R_alloc | apply Kd.R_drewN | apply Kd.R_drew)); exact HO_243001.out) (Kd.R_base ho0) hb)
      replace BK240 := Aside0.mk (blk_below (g := gb240) (o := .cells #[.int .i64 a0_0, .slice (some ad243) l0_1.length c0_1] 30 (0, 0)) zq17_3 hb)
      replace BK241 := Aside0.mk (blk_below (g := gb241) (o := .cells #[.int .i64 0, .slice none 0 0] 30 (0, 0)) zq17_4 hb)
      replace BK242 := Aside0.mk (blk_below (g := gb242) (o := .cells #[.int .i64 x243000_1, .slice Ao18 x243001_1.length co18] 30 (0, 0)) (by (with_reducible repeat (first | refine blk_drewN ?_ _ | refine blk_drew ?_ | refine blk_alloc ?_ _)); exact BK242.out) hb)
      replace HB := Aside0.mk (below_step (by repeat (first | (with_reducible first | exact HB.out | apply below_alloc | apply pw_below_drewN | apply below_drew1 | refine below_set ?_ GE240.out | refine below_set ?_ GE241.out | refine below_set ?_ GE242.out) | exact HB.out)) hb)
      (try clear hb)
      (try clear hb2)
      (try clear hk)
      (try clear hi)
      (try clear ho0)
      obtain ⟨Ao21, co21, eo21⟩ := Kd.R_slice HO247.out
      (first | subst eo21 | (injection eo21 with f1_ f2_ f3_; have f4_ := f1_.symm; have f5_ := f3_.symm; clear f1_ f2_ f3_; subst f4_; subst f5_))
      refine hK.out _ _ ⟨(blk_cell BK242.out 0).trans rfl, (blk_cell BK242.out 1).trans rfl, (blk_cell BK240.out 0).trans rfl, (blk_cell BK240.out 1).trans rfl, ((HB.out.cell (World.block_lt_of_cell? w _ hw243_0)).trans hw243_0)⟩ (fun hHeld => ?_)
      clear hK K
      refine norm_ (a' := ?_) ?_ ?_
      rotate_left
      ·show Act.put _ (some 32) _ = _
       simp only [Act.put, List.setIfInBounds_toArray, List.set_cons_zero, List.set_cons_succ, i64_w, i32_w]
       rfl
      refine last_ (i := 11) (N := none) #[true, true, true, true, true, true, true, true, true, true, true, true] rfl rfl (one_of HT_.out (by kernel_rfl)) (by decide) (fun K hK => ?_)
      have hs20 : w19.cell? ⟨gb242, 0, none⟩ = some (.int .i64 x243000_1) := (blk_cell BK242.out 0).trans rfl
      have hfs20 := blk_frozen BK242.out 0
      have hns20_0 := NB240_242.out
      have hns20_1 := NB241_242.out
      have hms20_0 := NB242_240.out
      have hms20_1 := NB242_241.out
      have hs22 : w19.cell? ⟨gb242, 1, none⟩ = some (.slice Ao18 x243001_1.length co18) := (blk_cell BK242.out 1).trans rfl
      have hfs22 := blk_frozen BK242.out 1
      have hns22_0 := NB240_242.out
      have hns22_1 := NB241_242.out
      have hms22_0 := NB242_240.out
      have hms22_1 := NB242_241.out
      refine skip_ (w1 := ?_) (by rfl) rfl ?_ ?_
      rotate_left
      ·go_simp
       rfl
      refine hK.out _ _ ?_
      clear hK K
      refine done_ (done_of HT_.out (by kernel_rfl)) ?_
      try go_wp2
      go_roundg k1
      case measure => have := HK1.out; omega
      case rel => exact ⟨(wrap64 (x4_1 + 1)), (t244), (t245), (.slice Ao21 t245.length co21), (by first | rfl | (simp; done) | (simp [*]; done)), H', ⟨by have := HK1.out; omega⟩, ⟨by (with_reducible repeat (first | apply Kd.R_alloc | apply Kd.R_drewN | apply Kd.R_drew)); exact Kd.R_mono (Kd.R_far (p := ⟨gb242, 1, none⟩) (Kd.R_far (p := ⟨gb242, 0, none⟩) (Kd.R_types HO247.out BK242.out (by decide)) (fun _ hk => hk.2) (.int .i64 t244)) (fun _ hk => hk.2) (.slice Ao21 t245.length co21)) (fun _ hk => trivial)⟩, ⟨by (with_reducible repeat (first | refine blk_drewN ?_ _ | refine blk_drew ?_ | refine blk_alloc ?_ _)); refine blk_far ?_ NB240_242.out _; (with_reducible repeat (first | refine blk_drewN ?_ _ | refine blk_drew ?_ | refine blk_alloc ?_ _)); refine blk_far ?_ NB240_242.out _; (with_reducible repeat (first | refine blk_drewN ?_ _ | refine blk_drew ?_ | refine blk_alloc ?_ _)); exact BK240.out⟩, ⟨by (with_reducible repeat (first | refine blk_drewN ?_ _ | refine blk_drew ?_ | refine blk_alloc ?_ _)); refine blk_far ?_ NB241_242.out _; (with_reducible repeat (first | refine blk_drewN ?_ _ | refine blk_drew ?_ | refine blk_alloc ?_ _)); refine blk_far ?_ NB241_242.out _; (with_reducible repeat (first | refine blk_drewN ?_ _ | refine blk_drew ?_ | refine blk_alloc ?_ _)); exact BK241.out⟩, ⟨by (with_reducible repeat (first | refine blk_drewN ?_ _ | refine blk_drew ?_ | refine blk_alloc ?_ _)); refine blk_put (cs := #[.int .i64 t244, .slice Ao18 x243001_1.length co18]) ?_ 1 _ rfl; (with_reducible repeat (first | refine blk_drewN ?_ _ | refine blk_drew ?_ | refine blk_alloc ?_ _)); refine blk_put (cs := #[.int .i64 x243000_1, .slice Ao18 x243001_1.length co18]) ?_ 0 _ rfl; (with_reducible repeat (first | refine blk_drewN ?_ _ | refine blk_drew ?_ | refine blk_alloc ?_ _)); exact BK242.out⟩, ⟨by repeat (first | (with_reducible first | exact HB.out | apply below_alloc | apply pw_below_drewN | apply below_drew1 | refine below_set ?_ GE240.out | refine below_set ?_ GE241.out | refine below_set ?_ GE242.out) | exact HB.out)⟩⟩
     ·rw [if_neg c12] at H
      exact absurd H (by simp)
    ·rw [if_neg c11] at H
     have c11b0 : decide (x4_1 < 30) = false := decide_eq_false c11
     clear c11
     simp only [Option.some.injEq, Prod.mk.injEq] at H
     obtain ⟨rfl, rfl⟩ := H
     have hnb23 := NB240_241.out
     have hnc23 := NB241_240.out
     have hnb24 := NB240_242.out
     have hnc24 := NB242_240.out
     have hcz25_0 : wr.cell? ⟨gb240, 0, none⟩ = some (.int .i64 a0_0) := (blk_cell BK240.out 0).trans rfl
     have hcz25_1 : wr.cell? ⟨gb240, 1, none⟩ = some (.slice A0_1 l0_1.length c0_1) := (blk_cell BK240.out 1).trans rfl
     have hfz25_0 := blk_frozen BK240.out 0
     have hfz25_1 := blk_frozen BK240.out 1
     have hnb26 := NB242_241.out
     have hnc26 := NB241_242.out
     have hcz27_0 : wr.cell? ⟨gb242, 0, none⟩ = some (.int .i64 x243000_1) := (blk_cell BK242.out 0).trans rfl
     have hcz27_1 : wr.cell? ⟨gb242, 1, none⟩ = some (u243001) := (blk_cell BK242.out 1).trans rfl
     have hfz27_0 := blk_frozen BK242.out 0
     have hfz27_1 := blk_frozen BK242.out 1
     have hcz28_0 : wr.cell? ⟨gb241, 0, none⟩ = some (.int .i64 0) := (blk_cell BK241.out 0).trans rfl
     have hcz28_1 : wr.cell? ⟨gb241, 1, none⟩ = some (.slice none 0 0) := (blk_cell BK241.out 1).trans rfl
     have hfz28_0 := blk_frozen BK241.out 0
     have hfz28_1 := blk_frozen BK241.out 1
     obtain ⟨Ao29, co29, eo29⟩ := Kd.R_slice HO_243001.out
     subst eo29
     go_wp2
     refine bodyPost_ret (results_cell_row rfl _ _ gb241 30 #[.int .i64 x243000_1, .slice Ao29 x243001_1.length co29] (0, 0) _ rfl (by (with_reducible repeat (first | refine blk_drewN ?_ _ | refine blk_drew ?_ | refine blk_alloc ?_ _)); refine blk_put (cs := #[.int .i64 x243000_1, .slice none 0 0]) ?_ 1 _ rfl; (with_reducible repeat (first | refine blk_drewN ?_ _ | refine blk_drew ?_ | refine blk_alloc ?_ _)); refine blk_put (cs := #[.int .i64 0, .slice none 0 0]) ?_ 0 _ rfl; (with_reducible repeat (first | refine blk_drewN ?_ _ | refine blk_drew ?_ | refine blk_alloc ?_ _)); exact BK241.out) Try.underlying30 rfl (by kernel_rfl)) rfl ?_
     exact ⟨_, by first | rfl | (simp [errW_none, errW_some] <;> rfl) | (simp [*, errW_none, errW_some] <;> rfl), by (with_reducible repeat (first | apply Kd.R_alloc | apply Kd.R_drewN | apply Kd.R_drew)); exact Kd.R_mono (Kd.R_far (p := ⟨gb241, 1, none⟩) (Kd.R_far (p := ⟨gb241, 0, none⟩) (Kd.R_types HO_243001.out BK241.out (by decide)) (fun _ hk => hk.2) (.int .i64 x243000_1)) (fun _ hk => hk.2) (.slice Ao29 x243001_1.length co29)) (fun _ hk => trivial), by repeat (first | (with_reducible first | exact HB.out | apply below_alloc | apply pw_below_drewN | apply below_drew1 | refine below_set ?_ GE240.out | refine below_set ?_ GE241.out | refine below_set ?_ GE242.out) | exact HB.out)⟩
   ·rw [if_neg c10] at H
    have c10b0 : decide (x4_1 < (l0_1.length : Int)) = false := decide_eq_false c10
    clear c10
    simp only [Option.some.injEq, Prod.mk.injEq] at H
    obtain ⟨rfl, rfl⟩ := H
    have hnb30 := NB240_241.out
    have hnc30 := NB241_240.out
    have hnb31 := NB240_242.out
    have hnc31 := NB242_240.out
    have hcz32_0 : wr.cell? ⟨gb240, 0, none⟩ = some (.int .i64 a0_0) := (blk_cell BK240.out 0).trans rfl
    have hcz32_1 : wr.cell? ⟨gb240, 1, none⟩ = some (.slice A0_1 l0_1.length c0_1) := (blk_cell BK240.out 1).trans rfl
    have hfz32_0 := blk_frozen BK240.out 0
    have hfz32_1 := blk_frozen BK240.out 1
    have hnb33 := NB242_241.out
    have hnc33 := NB241_242.out
    have hcz34_0 : wr.cell? ⟨gb242, 0, none⟩ = some (.int .i64 x243000_1) := (blk_cell BK242.out 0).trans rfl
    have hcz34_1 : wr.cell? ⟨gb242, 1, none⟩ = some (u243001) := (blk_cell BK242.out 1).trans rfl
    have hfz34_0 := blk_frozen BK242.out 0
    have hfz34_1 := blk_frozen BK242.out 1
    have hcz35_0 : wr.cell? ⟨gb241, 0, none⟩ = some (.int .i64 0) := (blk_cell BK241.out 0).trans rfl
    have hcz35_1 : wr.cell? ⟨gb241, 1, none⟩ = some (.slice none 0 0) := (blk_cell BK241.out 1).trans rfl
    have hfz35_0 := blk_frozen BK241.out 0
    have hfz35_1 := blk_frozen BK241.out 1
    obtain ⟨Ao36, co36, eo36⟩ := Kd.R_slice HO_243001.out
    subst eo36
    go_wp2
    refine bodyPost_ret (results_cell_row rfl _ _ gb241 30 #[.int .i64 x243000_1, .slice Ao36 x243001_1.length co36] (0, 0) _ rfl (by (with_reducible repeat (first | refine blk_drewN ?_ _ | refine blk_drew ?_ | refine blk_alloc ?_ _)); refine blk_put (cs := #[.int .i64 x243000_1, .slice none 0 0]) ?_ 1 _ rfl; (with_reducible repeat (first | refine blk_drewN ?_ _ | refine blk_drew ?_ | refine blk_alloc ?_ _)); refine blk_put (cs := #[.int .i64 0, .slice none 0 0]) ?_ 0 _ rfl; (with_reducible repeat (first | refine blk_drewN ?_ _ | refine blk_drew ?_ | refine blk_alloc ?_ _)); exact BK241.out) Try.underlying30 rfl (by kernel_rfl)) rfl ?_
    exact ⟨_, by first | rfl | (simp [errW_none, errW_some] <;> rfl) | (simp [*, errW_none, errW_some] <;> rfl), by (with_reducible repeat (first | apply Kd.R_alloc | apply Kd.R_drewN | apply Kd.R_drew)); exact Kd.R_mono (Kd.R_far (p := ⟨gb241, 1, none⟩) (Kd.R_far (p := ⟨gb241, 0, none⟩) (Kd.R_types HO_243001.out BK241.out (by decide)) (fun _ hk => hk.2) (.int .i64 x243000_1)) (fun _ hk => hk.2) (.slice Ao36 x243001_1.length co36)) (fun _ hk => trivial), by repeat (first | (with_reducible first | exact HB.out | apply below_alloc | apply pw_below_drewN | apply below_drew1 | refine below_set ?_ GE240.out | refine below_set ?_ GE241.out | refine below_set ?_ GE242.out) | exact HB.out)⟩

end Go.Proofs.Ytejoofeigeoboaa.P
