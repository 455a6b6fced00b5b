-- Written by a program of this session (wip/pp.py over the kit's printer, with our own texts put in).
import Derived.Test.YtkfehkaiifjkmaaP0
import Derived.Test.YtkfehkaiifjkmaaP1
import Derived.Test.YtkfehkaiifjkmaaP3
import Derived.Test.YtkfehkaiifjkmaaP4
import Derived.Test.YtkfehkaiifjkmaaP5
import Derived.Test.YtkfehkaiifjkmaaP6
import Derived.Test.YtkfehkaiifjkmaaP8
import Derived.Test.YtkfehkaiifjkmaaP9
import Derived.Test.YtkfehkaiifjkmaaP12
namespace Go.Proofs.Ytkfehkaiifjkmaa.P
open Go.RowKit Go.Proofs.YtkfehkaiifjkmaaW.PrintWords Go.Proofs.YtkfehkaiifjkmaaW.PrintLast Go.Proofs.YtkfehkaiifjkmaaW.PrintMore
attribute [local go_sem] max2_int min2_int max_two min_two max_three min_three max_four min_four   -- for this text's walks alone
set_option linter.unusedVariables false
set_option linter.unusedSimpArgs false

/-! ### cenotaphref02_Within: function 60 -/
theorem zq60_0 {p_ : Prop} (h_ : p_ := by repeat (first | (with_reducible first | exact HB.out | apply below_alloc | apply pw_below_drewN | apply below_drew1 | refine below_set ?_ GE469.out | refine below_set ?_ GE470.out) | exact HB.out)) : p_ := h_
theorem zq60_1 {p_ : Prop} (h_ : p_ := by repeat (first | (with_reducible first | exact HB.out | apply below_alloc | apply pw_below_drewN | apply below_drew1 | refine below_set ?_ GE469.out) | exact HB.out)) : p_ := h_
theorem zq60_2 {p_ : Prop} (h_ : p_ := by (try simp only [List.map_toArray, List.map_cons, List.map_nil]); first | done | rfl | (simp only [List.length_drop, List.length_take]; rfl)) : p_ := h_
theorem zq60_3 {p_ : Prop} (h_ : p_ := by repeat (first | (with_reducible first | exact HB.out | apply below_alloc | apply pw_below_drewN | apply below_drew1) | exact HB.out)) : p_ := h_
theorem zq60_4 {p_ : Prop} (h_ : p_ := by (with_reducible repeat (first | refine blk_drewN ?_ _ | refine blk_drew ?_ | refine blk_alloc ?_ _)); exact BK469.out) : p_ := h_
theorem zq60_5 {p_ : Prop} (h_ : p_ := by (with_reducible repeat (first | refine blk_drewN ?_ _ | refine blk_drew ?_ | refine blk_alloc ?_ _)); exact BK470.out) : p_ := h_
theorem zq60_6 {p_ : Prop} (h_ : p_ := by first | (with_reducible assumption) | assumption) : p_ := h_
theorem zq60_7 {p_ : Prop} (h_ : p_ := by first | rfl | (simp; done) | (simp [*]; done)) : p_ := h_
mutual
def cenotaphref02_Within.l0 : Nat → Int → Int → List Int → Int → List Int → Option (Bool)
 | 0, _, _, _, _, _ => none
 | k + 1, x5, x470000, x470001, x471000, x471001 => if x5 ≤ x470000 then ((cenotaphref02_Has.f k x471000 x471001 x5).bind fun t471 => (if t471 = true then (if x5 > (wrap64 (x471000 + 5000)) then (some false) else (cenotaphref02_Within.l0 k (wrap64 (x5 + 1)) x470000 x470001 x471000 x471001)) else (some false))) else (cenotaphref02_Within.l1 k 0 x470000 x470001 x471000 x471001)
def cenotaphref02_Within.l1 : Nat → Int → Int → List Int → Int → List Int → Option (Bool)
 | 0, _, _, _, _, _ => none
 | k + 1, x6, x470000, x470001, x471000, x471001 => if x6 < (x470001.length : Int) then (if 0 ≤ x6 then ((cenotaphref02_Has.f k x471000 x471001 (rd x470001 x6)).bind fun t473 => (if t473 = true then (cenotaphref02_Within.l1 k (wrap64 (x6 + 1)) x470000 x470001 x471000 x471001) else (some false))) else (none)) else (some true)
end
def cenotaphref02_Within.f (k : Nat) (a0_0 : Int) (l0_1 : List Int) (a1_0 : Int) (l1_1 : List Int) : Option (Bool) := cenotaphref02_Within.l0 k (wrap64 (a1_0 + 1)) a0_0 l0_1 a1_0 l1_1
theorem cenotaphref02_Within.mono_l : ∀ k, (∀ y0 y1 y2 y3 y4, LeO (cenotaphref02_Within.l0 k y0 y1 y2 y3 y4) (cenotaphref02_Within.l0 (k + 1) y0 y1 y2 y3 y4)) ∧ (∀ y0 y1 y2 y3 y4, LeO (cenotaphref02_Within.l1 k y0 y1 y2 y3 y4) (cenotaphref02_Within.l1 (k + 1) y0 y1 y2 y3 y4))
 | 0 => ⟨fun _ _ _ _ _ r h => by simp [cenotaphref02_Within.l0] at h, fun _ _ _ _ _ r h => by simp [cenotaphref02_Within.l1] at h⟩
 | k + 1 => by
  obtain ⟨ih0, ih1⟩ := cenotaphref02_Within.mono_l k
  refine ⟨?_, ?_⟩
  ·intro y0 y1 y2 y3 y4
   unfold cenotaphref02_Within.l0
   repeat' first
   | (with_reducible exact ih0 _ _ _ _ _)
   | (with_reducible exact ih1 _ _ _ _ _)
   | (with_reducible exact cenotaphref02_Has.mono _ _ _ _)
   | (with_reducible exact LeO.refl _)
   | (with_reducible exact LeO.none _)
   | (with_reducible refine LeO.ite ?_ ?_)
   | (with_reducible refine LeO.bind ?_ (fun _ => ?_))
   | exact ih0 _ _ _ _ _
   | exact ih1 _ _ _ _ _
   | exact cenotaphref02_Has.mono _ _ _ _
   | exact LeO.none _
   | refine LeO.ite ?_ ?_
   | refine LeO.bind ?_ (fun _ => ?_)
  ·intro y0 y1 y2 y3 y4
   unfold cenotaphref02_Within.l1
   repeat' first
   | (with_reducible exact ih0 _ _ _ _ _)
   | (with_reducible exact ih1 _ _ _ _ _)
   | (with_reducible exact cenotaphref02_Has.mono _ _ _ _)
   | (with_reducible exact LeO.refl _)
   | (with_reducible exact LeO.none _)
   | (with_reducible refine LeO.ite ?_ ?_)
   | (with_reducible refine LeO.bind ?_ (fun _ => ?_))
   | exact ih0 _ _ _ _ _
   | exact ih1 _ _ _ _ _
   | exact cenotaphref02_Has.mono _ _ _ _
   | exact LeO.none _
   | refine LeO.ite ?_ ?_
   | refine LeO.bind ?_ (fun _ => ?_)
theorem cenotaphref02_Within.mono : ∀ a0 a1 a2 a3 k, LeO (cenotaphref02_Within.f k a0 a1 a2 a3) (cenotaphref02_Within.f (k + 1) a0 a1 a2 a3) := by
 intro a0 a1 a2 a3 k
 obtain ⟨ih0, ih1⟩ := cenotaphref02_Within.mono_l k
 unfold cenotaphref02_Within.f
 repeat' first
   | (with_reducible exact ih0 _ _ _ _ _)
   | (with_reducible exact ih1 _ _ _ _ _)
   | (with_reducible exact cenotaphref02_Has.mono _ _ _ _)
   | (with_reducible exact LeO.refl _)
   | (with_reducible exact LeO.none _)
   | (with_reducible refine LeO.ite ?_ ?_)
   | (with_reducible refine LeO.bind ?_ (fun _ => ?_))
   | exact ih0 _ _ _ _ _
   | exact ih1 _ _ _ _ _
   | exact cenotaphref02_Has.mono _ _ _ _
   | exact LeO.none _
   | refine LeO.ite ?_ ?_
   | refine LeO.bind ?_ (fun _ => ?_)
def cenotaphref02_Within.T11 : Bool × List (List Nat × List Nat) := (true, [([], []), ([], []), ([1], [1]), ([], []), ([2, 3], [2, 3]), ([4], [4]), ([0, 5], [0, 5]), ([6], [6])])
def cenotaphref02_Within.B11 : List Nat := [0, 0, 2, 0, 14, 30, 63, 127]
theorem cenotaphref02_Within.tab11 : rtab .any (opsOf Try.f60 11) = cenotaphref02_Within.T11 := by kernel_rfl
theorem cenotaphref02_Within.bits11 : waitsOk cenotaphref02_Within.T11.2 cenotaphref02_Within.B11 = true := by kernel_rfl
set_option maxHeartbeats 8000000 in
set_option maxRecDepth 100000 in
theorem cenotaphref02_Within.calls (k : Nat) (a0_0 : Int) (A0_1 : Option Addr) (c0_1 : Nat) (l0_1 : List Int) (a1_0 : Int) (A1_1 : Option Addr) (c1_1 : Nat) (l1_1 : List Int) (r : Bool) (w : World) (hr0_1 : Kd.C (Kd.int .i64) w A0_1 l0_1.length l0_1) (hc0_1 : l0_1.length ≤ c0_1) (hr1_1 : Kd.C (Kd.int .i64) w A1_1 l1_1.length l1_1) (hc1_1 : l1_1.length ≤ c1_1) (h : cenotaphref02_Within.f k a0_0 l0_1 a1_0 l1_1 = some r) :
  Calls Try.prog 60 #[.agg #[.int .i64 a0_0, .slice A0_1 l0_1.length c0_1], .agg #[.int .i64 a1_0, .slice A1_1 l1_1.length c1_1]] w fun e w' => e = .returned (.bool r) ∧ Below w.heap.size w w' := by
 have hu25 := Try.underlying25
 have HR0_1 := Aside0.mk hr0_1
 have HC0_1 := Aside0.mk hc0_1
 clear hr0_1 hc0_1
 have HR1_1 := Aside0.mk hr1_1
 have HC1_1 := Aside0.mk hc1_1
 clear hr1_1 hc1_1
 have HB := Aside0.mk (Below.refl w.heap.size w)
 have H : (cenotaphref02_Within.l0 k (wrap64 (a1_0 + 1)) a0_0 l0_1 a1_0 l1_1) = some r := h
 clear h
 have H' := Aside0.mk H
 clear H
 go_enter Try.func60, Try.ntmps60
 go_wp2_with (first | ((with_reducible refine gate_dst (N := 2) rfl ?_); refine box_event ?hg (N := 2) ?hd (cs := #[.int .i64 a0_0, .slice A0_1 l0_1.length c0_1]) (t := 25) ?hr ?_; (case hd => rfl); (case hg => rfl); (case hr => first | (go_simp; done) | (go_simp; rfl)); intro gb469 hg w3 hbox hb; have BK469 := Aside0.mk (hbox); have GW469 := Aside0.mk (((by rw [hg]; exact (below_size zq60_3)) : w.heap.size ≤ gb469)); have GE469 := Aside0.mk (((by rw [hg]; exact (below_size zq60_3)) : w.heap.size ≤ gb469)); replace HB := Aside0.mk (below_step zq60_3 hb); clear hb hbox hg) | ((with_reducible refine gate_dst (N := 3) rfl ?_); refine box_event ?hg (N := 3) ?hd (cs := #[.int .i64 a1_0, .slice A1_1 l1_1.length c1_1]) (t := 25) ?hr ?_; (case hd => rfl); (case hg => rfl); (case hr => first | (go_simp; done) | (go_simp; rfl)); intro gb470 hg w4 hbox hb; have BK470 := Aside0.mk (hbox); have GW470 := Aside0.mk (((by rw [hg]; exact (below_size zq60_1)) : w.heap.size ≤ gb470)); have GE470 := Aside0.mk (((by rw [hg]; exact (below_size zq60_1)) : w.heap.size ≤ gb470)); replace HB := Aside0.mk (below_step zq60_1 hb); have NB469_470 := Aside0.mk (((by rw [hg]; exact Nat.ne_of_lt (blk_lt (g := gb469) (o := .cells #[.int .i64 a0_0, .slice A0_1 l0_1.length c0_1] 25 (0, 0)) zq60_4)) : gb469 ≠ gb470)); have NB470_469 := Aside0.mk (((by rw [hg]; exact Nat.ne_of_gt (blk_lt (g := gb469) (o := .cells #[.int .i64 a0_0, .slice A0_1 l0_1.length c0_1] 25 (0, 0)) zq60_4)) : gb470 ≠ gb469)); replace BK469 := Aside0.mk (blk_below (g := gb469) (o := .cells #[.int .i64 a0_0, .slice A0_1 l0_1.length c0_1] 25 (0, 0)) zq60_4 hb); clear hb hbox hg; have hnb5 := NB470_469.out; have hnc5 := NB469_470.out; have hcz6_0 : w4.cell? ⟨gb470, 0, none⟩ = some (.int .i64 a1_0) := (blk_cell BK470.out 0).trans rfl; have hcz6_1 : w4.cell? ⟨gb470, 1, none⟩ = some (.slice A1_1 l1_1.length c1_1) := (blk_cell BK470.out 1).trans rfl; have hfz6_0 := blk_frozen BK470.out 0; have hfz6_1 := blk_frozen BK470.out 1))
 go_loopg [5] k (fun kq v5 w' => ∃ (x5_1 : Int), v5 = .int .i64 x5_1 ∧ Aside0 (cenotaphref02_Within.l0 kq x5_1 a0_0 l0_1 a1_0 l1_1 = some r) ∧ Aside0 (kq ≤ k) ∧ Aside0 (w'.heap[gb469]? = some (.cells #[.int .i64 a0_0, (.slice A0_1 l0_1.length c0_1)] 25 (0, 0))) ∧ Aside0 (w'.heap[gb470]? = some (.cells #[.int .i64 a1_0, (.slice A1_1 l1_1.length c1_1)] 25 (0, 0))) ∧ Aside0 (Below w.heap.size w w'))
 case atStart => exact ⟨(wrap64 (a1_0 + 1)), zq60_7, H', ⟨Nat.le_refl _⟩, ⟨by (with_reducible repeat (first | refine blk_drewN ?_ _ | refine blk_drew ?_ | refine blk_alloc ?_ _)); exact BK469.out⟩, ⟨by (with_reducible repeat (first | refine blk_drewN ?_ _ | refine blk_drew ?_ | refine blk_alloc ?_ _)); exact BK470.out⟩, ⟨by repeat (first | (with_reducible first | exact HB.out | apply below_alloc | apply pw_below_drewN | apply below_drew1 | refine below_set ?_ GE469.out | refine below_set ?_ GE470.out) | exact HB.out)⟩⟩
 case round =>
  clear H'
  try clear c1
  try clear p2
  try clear c5
  try clear c6
  try clear p6
  try clear hcz6_0
  try clear hcz6_1
  try clear hfz6_0
  try clear hfz6_1
  obtain ⟨x5_1, rfl, HA, HK1, BK469, BK470, HB⟩ := hrel
  cases gk with
  | zero => exact absurd HA.out (by simp [cenotaphref02_Within.l0])
  | succ k1 =>
   have H := HA.out
   clear HA
   simp only [cenotaphref02_Within.l0] at H
   by_cases c7 : x5_1 ≤ a0_0
   ·rw [if_pos c7] at H
    have c7b0 : decide (x5_1 ≤ a0_0) = true := decide_eq_true c7
    clear c7
    replace H := Option.bind_eq_some_iff.mp H
    obtain ⟨t471, A80, H⟩ := H
    have A8 := Aside0.mk A80
    clear A80
    by_cases c9 : t471 = true
    ·subst c9
     have H1 : (if x5_1 > (wrap64 (a1_0 + 5000)) then (some false) else (cenotaphref02_Within.l0 k1 (wrap64 (x5_1 + 1)) a0_0 l0_1 a1_0 l1_1)) = some r := by rw [if_pos rfl] at H; exact H
     clear H
     have H := H1
     clear H1
     by_cases c10 : x5_1 > (wrap64 (a1_0 + 5000))
     ·rw [if_pos c10] at H
      have c10b0 : decide ((wrap64 (a1_0 + 5000)) < x5_1) = true := decide_eq_true c10
      clear c10
      obtain rfl := Option.some.inj H
      have hnb11 := NB469_470.out
      have hnc11 := NB470_469.out
      have hcz12_0 : wr.cell? ⟨gb469, 0, none⟩ = some (.int .i64 a0_0) := (blk_cell BK469.out 0).trans rfl
      have hcz12_1 : wr.cell? ⟨gb469, 1, none⟩ = some (.slice A0_1 l0_1.length c0_1) := (blk_cell BK469.out 1).trans rfl
      have hfz12_0 := blk_frozen BK469.out 0
      have hfz12_1 := blk_frozen BK469.out 1
      have hcz13_0 : wr.cell? ⟨gb470, 0, none⟩ = some (.int .i64 a1_0) := (blk_cell BK470.out 0).trans rfl
      have hcz13_1 : wr.cell? ⟨gb470, 1, none⟩ = some (.slice A1_1 l1_1.length c1_1) := (blk_cell BK470.out 1).trans rfl
      have hfz13_0 := blk_frozen BK470.out 0
      have hfz13_1 := blk_frozen BK470.out 1
      go_wp2_with (first | ((with_reducible refine gate_callee (f := 55) rfl ?_); refine goesL_ (some 18) rfl rfl Try.func55 (by kernel_rfl) rfl #[.agg #[.int .i64 a1_0, .slice A1_1 l1_1.length c1_1], .int .i64 x5_1] rfl zq60_2 ?_; (with_reducible refine (cenotaphref02_Has.calls k1 a1_0 _ _ l1_1 x5_1 true _ ?side1 ?side2 A8.out).mono ?_); (case side1 => repeat (first | exact (Kd.C_below HR1_1.out HB.out) | (with_reducible refine Kd.C_alloc ?_ _) | (with_reducible refine Kd.C_drewN ?_ _) | (with_reducible refine Kd.C_drew ?_))); (case side2 => exact HC1_1.out); rintro e w14 ⟨rfl, hb⟩; refine ⟨_, rfl, ?_⟩; replace BK469 := Aside0.mk (blk_below (g := gb469) (o := .cells #[.int .i64 a0_0, .slice A0_1 l0_1.length c0_1] 25 (0, 0)) zq60_4 hb); replace BK470 := Aside0.mk (blk_below (g := gb470) (o := .cells #[.int .i64 a1_0, .slice A1_1 l1_1.length c1_1] 25 (0, 0)) zq60_5 hb); replace HB := Aside0.mk (below_step zq60_0 hb); (try clear hb); (try clear hb2); (try clear hk); (try clear hi); have hcz15_0 : w14.cell? ⟨gb470, 0, none⟩ = some (.int .i64 a1_0) := (blk_cell BK470.out 0).trans rfl; have hcz15_1 : w14.cell? ⟨gb470, 1, none⟩ = some (.slice A1_1 l1_1.length c1_1) := (blk_cell BK470.out 1).trans rfl; have hfz15_0 := blk_frozen BK470.out 0; have hfz15_1 := blk_frozen BK470.out 1))
      go_ret
      exact ⟨by first | rfl | (simp [errW_none, errW_some] <;> rfl) | (simp [*, errW_none, errW_some] <;> rfl), by repeat (first | (with_reducible first | exact HB.out | apply below_alloc | apply pw_below_drewN | apply below_drew1 | refine below_set ?_ GE469.out | refine below_set ?_ GE470.out) | exact HB.out)⟩
     ·rw [if_neg c10] at H
      have c10b0 : decide ((wrap64 (a1_0 + 5000)) < x5_1) = false := decide_eq_false c10
      clear c10
      have H' := Aside0.mk H
      clear H
      have hnb16 := NB469_470.out
      have hnc16 := NB470_469.out
      have hcz17_0 : wr.cell? ⟨gb469, 0, none⟩ = some (.int .i64 a0_0) := (blk_cell BK469.out 0).trans rfl
      have hcz17_1 : wr.cell? ⟨gb469, 1, none⟩ = some (.slice A0_1 l0_1.length c0_1) := (blk_cell BK469.out 1).trans rfl
      have hfz17_0 := blk_frozen BK469.out 0
      have hfz17_1 := blk_frozen BK469.out 1
      have hcz18_0 : wr.cell? ⟨gb470, 0, none⟩ = some (.int .i64 a1_0) := (blk_cell BK470.out 0).trans rfl
      have hcz18_1 : wr.cell? ⟨gb470, 1, none⟩ = some (.slice A1_1 l1_1.length c1_1) := (blk_cell BK470.out 1).trans rfl
      have hfz18_0 := blk_frozen BK470.out 0
      have hfz18_1 := blk_frozen BK470.out 1
      go_wp2_with (first | ((with_reducible refine gate_callee (f := 55) rfl ?_); refine goesL_ (some 18) rfl rfl Try.func55 (by kernel_rfl) rfl #[.agg #[.int .i64 a1_0, .slice A1_1 l1_1.length c1_1], .int .i64 x5_1] rfl zq60_2 ?_; (with_reducible refine (cenotaphref02_Has.calls k1 a1_0 _ _ l1_1 x5_1 true _ ?side1 ?side2 A8.out).mono ?_); (case side1 => repeat (first | exact (Kd.C_below HR1_1.out HB.out) | (with_reducible refine Kd.C_alloc ?_ _) | (with_reducible refine Kd.C_drewN ?_ _) | (with_reducible refine Kd.C_drew ?_))); (case side2 => exact HC1_1.out); rintro e w19 ⟨rfl, hb⟩; refine ⟨_, rfl, ?_⟩; replace BK469 := Aside0.mk (blk_below (g := gb469) (o := .cells #[.int .i64 a0_0, .slice A0_1 l0_1.length c0_1] 25 (0, 0)) zq60_4 hb); replace BK470 := Aside0.mk (blk_below (g := gb470) (o := .cells #[.int .i64 a1_0, .slice A1_1 l1_1.length c1_1] 25 (0, 0)) zq60_5 hb); replace HB := Aside0.mk (below_step zq60_0 hb); (try clear hb); (try clear hb2); (try clear hk); (try clear hi); have hcz20_0 : w19.cell? ⟨gb470, 0, none⟩ = some (.int .i64 a1_0) := (blk_cell BK470.out 0).trans rfl; have hcz20_1 : w19.cell? ⟨gb470, 1, none⟩ = some (.slice A1_1 l1_1.length c1_1) := (blk_cell BK470.out 1).trans rfl; have hfz20_0 := blk_frozen BK470.out 0; have hfz20_1 := blk_frozen BK470.out 1))
      go_roundg k1
      case measure => have := HK1.out; omega
      case rel => exact ⟨(wrap64 (x5_1 + 1)), zq60_7, H', ⟨by have := HK1.out; omega⟩, ⟨by (with_reducible repeat (first | refine blk_drewN ?_ _ | refine blk_drew ?_ | refine blk_alloc ?_ _)); exact BK469.out⟩, ⟨by (with_reducible repeat (first | refine blk_drewN ?_ _ | refine blk_drew ?_ | refine blk_alloc ?_ _)); exact BK470.out⟩, ⟨by repeat (first | (with_reducible first | exact HB.out | apply below_alloc | apply pw_below_drewN | apply below_drew1 | refine below_set ?_ GE469.out | refine below_set ?_ GE470.out) | exact HB.out)⟩⟩
    ·replace c9 := Bool.eq_false_iff.mpr c9
     subst c9
     have H1 : (some false) = some r := by rw [if_neg (show ¬ (false = true) by decide)] at H; exact H
     clear H
     have H := H1
     clear H1
     obtain rfl := Option.some.inj H
     have hnb21 := NB469_470.out
     have hnc21 := NB470_469.out
     have hcz22_0 : wr.cell? ⟨gb469, 0, none⟩ = some (.int .i64 a0_0) := (blk_cell BK469.out 0).trans rfl
     have hcz22_1 : wr.cell? ⟨gb469, 1, none⟩ = some (.slice A0_1 l0_1.length c0_1) := (blk_cell BK469.out 1).trans rfl
     have hfz22_0 := blk_frozen BK469.out 0
     have hfz22_1 := blk_frozen BK469.out 1
     have hcz23_0 : wr.cell? ⟨gb470, 0, none⟩ = some (.int .i64 a1_0) := (blk_cell BK470.out 0).trans rfl
     have hcz23_1 : wr.cell? ⟨gb470, 1, none⟩ = some (.slice A1_1 l1_1.length c1_1) := (blk_cell BK470.out 1).trans rfl
     have hfz23_0 := blk_frozen BK470.out 0
     have hfz23_1 := blk_frozen BK470.out 1
     go_wp2_with (first | ((with_reducible refine gate_callee (f := 55) rfl ?_); refine goesL_ (some 18) rfl rfl Try.func55 (by kernel_rfl) rfl #[.agg #[.int .i64 a1_0, .slice A1_1 l1_1.length c1_1], .int .i64 x5_1] rfl zq60_2 ?_; (with_reducible refine (cenotaphref02_Has.calls k1 a1_0 _ _ l1_1 x5_1 false _ ?side1 ?side2 A8.out).mono ?_); (case side1 => repeat (first | exact (Kd.C_below HR1_1.out HB.out) | (with_reducible refine Kd.C_alloc ?_ _) | (with_reducible refine Kd.C_drewN ?_ _) | (with_reducible refine Kd.C_drew ?_))); (case side2 => exact HC1_1.out); rintro e w24 ⟨rfl, hb⟩; refine ⟨_, rfl, ?_⟩; replace BK469 := Aside0.mk (blk_below (g := gb469) (o := .cells #[.int .i64 a0_0, .slice A0_1 l0_1.length c0_1] 25 (0, 0)) zq60_4 hb); replace BK470 := Aside0.mk (blk_below (g := gb470) (o := .cells #[.int .i64 a1_0, .slice A1_1 l1_1.length c1_1] 25 (0, 0)) zq60_5 hb); replace HB := Aside0.mk (below_step zq60_0 hb); (try clear hb); (try clear hb2); (try clear hk); (try clear hi)))
     go_ret
     exact ⟨by first | rfl | (simp [errW_none, errW_some] <;> rfl) | (simp [*, errW_none, errW_some] <;> rfl), by repeat (first | (with_reducible first | exact HB.out | apply below_alloc | apply pw_below_drewN | apply below_drew1 | refine below_set ?_ GE469.out | refine below_set ?_ GE470.out) | exact HB.out)⟩
   ·rw [if_neg c7] at H
    have c7b0 : decide (x5_1 ≤ a0_0) = false := decide_eq_false c7
    clear c7
    have H' := Aside0.mk H
    clear H
    have hnb25 := NB469_470.out
    have hnc25 := NB470_469.out
    have hcz26_0 : wr.cell? ⟨gb469, 0, none⟩ = some (.int .i64 a0_0) := (blk_cell BK469.out 0).trans rfl
    have hcz26_1 : wr.cell? ⟨gb469, 1, none⟩ = some (.slice A0_1 l0_1.length c0_1) := (blk_cell BK469.out 1).trans rfl
    have hfz26_0 := blk_frozen BK469.out 0
    have hfz26_1 := blk_frozen BK469.out 1
    go_wp2
    go_loopg [6] k1 (fun kq v6 w' => ∃ (x6_2 : Int), v6 = .int .i64 x6_2 ∧ Aside0 (cenotaphref02_Within.l1 kq x6_2 a0_0 l0_1 a1_0 l1_1 = some r) ∧ Aside0 (kq ≤ k1) ∧ Aside0 (w'.heap[gb469]? = some (.cells #[.int .i64 a0_0, (.slice A0_1 l0_1.length c0_1)] 25 (0, 0))) ∧ Aside0 (w'.heap[gb470]? = some (.cells #[.int .i64 a1_0, (.slice A1_1 l1_1.length c1_1)] 25 (0, 0))) ∧ Aside0 (Below w.heap.size w w'))
    case atStart => exact ⟨(0), zq60_7, H', ⟨Nat.le_refl _⟩, ⟨by (with_reducible repeat (first | refine blk_drewN ?_ _ | refine blk_drew ?_ | refine blk_alloc ?_ _)); exact BK469.out⟩, ⟨by (with_reducible repeat (first | refine blk_drewN ?_ _ | refine blk_drew ?_ | refine blk_alloc ?_ _)); exact BK470.out⟩, ⟨by repeat (first | (with_reducible first | exact HB.out | apply below_alloc | apply pw_below_drewN | apply below_drew1 | refine below_set ?_ GE469.out | refine below_set ?_ GE470.out) | exact HB.out)⟩⟩
    case round =>
     clear H'
     try clear c1
     try clear c2
     try clear p2
     try clear c5
     try clear c6
     try clear p6
     try clear c7
     try clear c7b0
     try clear c9
     try clear c10
     try clear c10b0
     try clear c11
     try clear c16
     try clear c21
     try clear c25
     try clear hcz12_0
     try clear hcz12_1
     try clear hcz13_0
     try clear hcz13_1
     try clear hcz15_0
     try clear hcz15_1
     try clear hcz17_0
     try clear hcz17_1
     try clear hcz18_0
     try clear hcz18_1
     try clear hcz20_0
     try clear hcz20_1
     try clear hcz22_0
     try clear hcz22_1
     try clear hcz23_0
     try clear hcz23_1
     try clear hcz26_0
     try clear hcz26_1
     try clear hcz6_0
     try clear hcz6_1
     try clear hfz12_0
     try clear hfz12_1
     try clear hfz13_0
     try clear hfz13_1
     try clear hfz15_0
     try clear hfz15_1
     try clear hfz17_0
     try clear hfz17_1
     try clear hfz18_0
     try clear hfz18_1
     try clear hfz20_0
     try clear hfz20_1
     try clear hfz22_0
     try clear hfz22_1
     try clear hfz23_0
     try clear hfz23_1
     try clear hfz26_0
     try clear hfz26_1
     try clear hfz6_0
     try clear hfz6_1
     try clear p2
     try clear p6
     obtain ⟨x6_2, rfl, HA, HK2, BK469, BK470, HB⟩ := hrel
     cases gk with
     | zero => exact absurd HA.out (by simp [cenotaphref02_Within.l1])
     | succ k2 =>
      have H := HA.out
      clear HA
      simp only [cenotaphref02_Within.l1] at H
      by_cases c27 : x6_2 < (l0_1.length : Int)
      ·rw [if_pos c27] at H
       have c27b0 : decide (x6_2 < (l0_1.length : Int)) = true := decide_eq_true c27
       clear c27
       by_cases c28 : 0 ≤ x6_2
       ·rw [if_pos c28] at H
        have c28b0 : decide (0 ≤ x6_2) = true := decide_eq_true c28
        clear c28
        replace H := Option.bind_eq_some_iff.mp H
        obtain ⟨t473, A290, H⟩ := H
        have A29 := Aside0.mk A290
        clear A290
        by_cases c30 : t473 = true
        ·subst c30
         have H1 : (cenotaphref02_Within.l1 k2 (wrap64 (x6_2 + 1)) a0_0 l0_1 a1_0 l1_1) = some r := by rw [if_pos rfl] at H; exact H
         clear H
         have H := H1
         clear H1
         have H' := Aside0.mk H
         clear H
         have hnb31 := NB469_470.out
         have hnc31 := NB470_469.out
         have hcz32_0 : wr.cell? ⟨gb469, 0, none⟩ = some (.int .i64 a0_0) := (blk_cell BK469.out 0).trans rfl
         have hcz32_1 : wr.cell? ⟨gb469, 1, none⟩ = some (.slice A0_1 l0_1.length c0_1) := (blk_cell BK469.out 1).trans rfl
         have hfz32_0 := blk_frozen BK469.out 0
         have hfz32_1 := blk_frozen BK469.out 1
         try go_wp2
         replace BK469 := Aside0.mk (blk_drew BK469.out)
         replace BK470 := Aside0.mk (blk_drew BK470.out)
         replace HB := Aside0.mk (below_drew1 HB.out)
         have p472 : 0 ≤ (x6_2 : Int) := of_decide_eq_true zq60_6
         have q472 : x6_2 < (l0_1.length : Int) := of_decide_eq_true zq60_6
         obtain ⟨ad472, e472, hx472_0⟩ := Kd.at_int HR0_1.out x6_2 p472 q472
         have hw472_0 := hx472_0
         cases e472
         replace hx472_0 := (HB.out.cell (World.block_lt_of_cell? w _ hx472_0)).trans hx472_0
         replace p472 := eq_true p472
         replace q472 := eq_true q472
         refine start_ (n := 8) (S := fun w' => w'.cell? ⟨gb470, 0, none⟩ = some (.int .i64 a1_0) ∧ w'.cell? ⟨gb470, 1, none⟩ = some (.slice A1_1 l1_1.length c1_1) ∧ w'.cell? ⟨gb469, 0, none⟩ = some (.int .i64 a0_0) ∧ w'.cell? ⟨gb469, 1, none⟩ = some (.slice (some ad472) l0_1.length c0_1) ∧ w'.cell? (ad472.add (x6_2).toNat) = some (.int .i64 (rd l0_1 x6_2))) (ds := []) #[false, false, false, false, false, false, false, false] (by kernel_rfl) rfl rfl ⟨(blk_cell BK470.out 0).trans rfl, (blk_cell BK470.out 1).trans rfl, (blk_cell BK469.out 0).trans rfl, (blk_cell BK469.out 1).trans rfl, ((HB.out.cell (World.block_lt_of_cell? w _ hw472_0)).trans hw472_0)⟩ (fun hHeld => ?_); refine with_tabW cenotaphref02_Within.tab11 cenotaphref02_Within.bits11 (fun HT_ HW_ => ?_)
         generalize wr.drew = w33 at BK469 BK470 HB hx472_0 hHeld ⊢
         refine p_ 1 33 (mk_ 8 0x2) ?_
         refine p_ 3 35 (mk_ 8 0xa) ?_
         refine t_ 0 32 (mk_ 8 0xb) hHeld ?_
         refine t_ 2 34 (mk_ 8 0xf) hHeld ?_
         refine p_ 4 36 (mk_ 8 0x1f) ?_
         refine t_ 5 37 (mk_ 8 0x3f) hHeld ?_
         refine one_ (i := 6) (N := some 38) #[true, true, true, true, true, true, true, false] rfl rfl (one_of HT_.out (by kernel_rfl)) (by decide) (fun K hK => ?_)
         refine goes_ Try.func55 (by kernel_rfl) rfl #[.agg #[.int .i64 a1_0, .slice A1_1 l1_1.length c1_1], .int .i64 (rd l0_1 x6_2)] (by rfl) rfl rfl zq60_2 ?_
         with_reducible refine (cenotaphref02_Has.calls k2 a1_0 _ _ l1_1 (rd l0_1 x6_2) true _ ?side1 ?side2 A29.out).mono ?_
         (case side1 => repeat (first | exact (Kd.C_below HR1_1.out HB.out) | (with_reducible refine Kd.C_alloc ?_ _) | (with_reducible refine Kd.C_drewN ?_ _) | (with_reducible refine Kd.C_drew ?_)))
         (case side2 => exact HC1_1.out)
         rintro e w34 ⟨rfl, hb⟩
         refine ⟨_, rfl, ?_⟩
         replace BK469 := Aside0.mk (blk_below (g := gb469) (o := .cells #[.int .i64 a0_0, .slice (some ad472) l0_1.length c0_1] 25 (0, 0)) zq60_4 hb)
         replace BK470 := Aside0.mk (blk_below (g := gb470) (o := .cells #[.int .i64 a1_0, .slice A1_1 l1_1.length c1_1] 25 (0, 0)) zq60_5 hb)
         replace HB := Aside0.mk (below_step zq60_0 hb)
         (try clear hb)
         (try clear hb2)
         (try clear hk)
         (try clear hi)
         refine hK.out _ _ ⟨(blk_cell BK470.out 0).trans rfl, (blk_cell BK470.out 1).trans rfl, (blk_cell BK469.out 0).trans rfl, (blk_cell BK469.out 1).trans rfl, ((HB.out.cell (World.block_lt_of_cell? w _ hw472_0)).trans hw472_0)⟩ (fun hHeld => ?_)
         clear hK K
         refine norm_ (a' := ?_) ?_ ?_
         rotate_left
         ·show Act.put _ (some 38) _ = _
          simp only [Act.put, List.setIfInBounds_toArray, List.set_cons_zero, List.set_cons_succ, i64_w, i32_w]
          rfl
         refine p_ 7 39 (mk_ 8 0xff) ?_
         refine done_ (done_of HT_.out (by kernel_rfl)) ?_
         try go_wp2
         go_roundg k2
         case measure => have := HK1.out; have := HK2.out; omega
         case rel => exact ⟨(wrap64 (x6_2 + 1)), zq60_7, H', ⟨by have := HK1.out; have := HK2.out; omega⟩, ⟨by (with_reducible repeat (first | refine blk_drewN ?_ _ | refine blk_drew ?_ | refine blk_alloc ?_ _)); exact BK469.out⟩, ⟨by (with_reducible repeat (first | refine blk_drewN ?_ _ | refine blk_drew ?_ | refine blk_alloc ?_ _)); exact BK470.out⟩, ⟨by repeat (first | (with_reducible first | exact HB.out | apply below_alloc | apply pw_below_drewN | apply below_drew1 | refine below_set ?_ GE469.out | refine below_set ?_ GE470.out) | exact HB.out)⟩⟩
        ·replace c30 := Bool.eq_false_iff.mpr c30
         subst c30
         have H1 : (some false) = some r := by rw [if_neg (show ¬ (false = true) by decide)] at H; exact H
         clear H
         have H := H1
         clear H1
         obtain rfl := Option.some.inj H
         have hnb35 := NB469_470.out
         have hnc35 := NB470_469.out
         have hcz36_0 : wr.cell? ⟨gb469, 0, none⟩ = some (.int .i64 a0_0) := (blk_cell BK469.out 0).trans rfl
         have hcz36_1 : wr.cell? ⟨gb469, 1, none⟩ = some (.slice A0_1 l0_1.length c0_1) := (blk_cell BK469.out 1).trans rfl
         have hfz36_0 := blk_frozen BK469.out 0
         have hfz36_1 := blk_frozen BK469.out 1
         try go_wp2
         replace BK469 := Aside0.mk (blk_drew BK469.out)
         replace BK470 := Aside0.mk (blk_drew BK470.out)
         replace HB := Aside0.mk (below_drew1 HB.out)
         have p472 : 0 ≤ (x6_2 : Int) := of_decide_eq_true zq60_6
         have q472 : x6_2 < (l0_1.length : Int) := of_decide_eq_true zq60_6
         obtain ⟨ad472, e472, hx472_0⟩ := Kd.at_int HR0_1.out x6_2 p472 q472
         have hw472_0 := hx472_0
         cases e472
         replace hx472_0 := (HB.out.cell (World.block_lt_of_cell? w _ hx472_0)).trans hx472_0
         replace p472 := eq_true p472
         replace q472 := eq_true q472
         refine start_ (n := 8) (S := fun w' => w'.cell? ⟨gb470, 0, none⟩ = some (.int .i64 a1_0) ∧ w'.cell? ⟨gb470, 1, none⟩ = some (.slice A1_1 l1_1.length c1_1) ∧ w'.cell? ⟨gb469, 0, none⟩ = some (.int .i64 a0_0) ∧ w'.cell? ⟨gb469, 1, none⟩ = some (.slice (some ad472) l0_1.length c0_1) ∧ w'.cell? (ad472.add (x6_2).toNat) = some (.int .i64 (rd l0_1 x6_2))) (ds := []) #[false, false, false, false, false, false, false, false] (by kernel_rfl) rfl rfl ⟨(blk_cell BK470.out 0).trans rfl, (blk_cell BK470.out 1).trans rfl, (blk_cell BK469.out 0).trans rfl, (blk_cell BK469.out 1).trans rfl, ((HB.out.cell (World.block_lt_of_cell? w _ hw472_0)).trans hw472_0)⟩ (fun hHeld => ?_); refine with_tabW cenotaphref02_Within.tab11 cenotaphref02_Within.bits11 (fun HT_ HW_ => ?_)
         generalize wr.drew = w37 at BK469 BK470 HB hx472_0 hHeld ⊢
         refine p_ 1 33 (mk_ 8 0x2) ?_
         refine p_ 3 35 (mk_ 8 0xa) ?_
         refine t_ 0 32 (mk_ 8 0xb) hHeld ?_
         refine t_ 2 34 (mk_ 8 0xf) hHeld ?_
         refine p_ 4 36 (mk_ 8 0x1f) ?_
         refine t_ 5 37 (mk_ 8 0x3f) hHeld ?_
         refine one_ (i := 6) (N := some 38) #[true, true, true, true, true, true, true, false] rfl rfl (one_of HT_.out (by kernel_rfl)) (by decide) (fun K hK => ?_)
         refine goes_ Try.func55 (by kernel_rfl) rfl #[.agg #[.int .i64 a1_0, .slice A1_1 l1_1.length c1_1], .int .i64 (rd l0_1 x6_2)] (by rfl) rfl rfl zq60_2 ?_
         with_reducible refine (cenotaphref02_Has.calls k2 a1_0 _ _ l1_1 (rd l0_1 x6_2) false _ ?side1 ?side2 A29.out).mono ?_
         (case side1 => repeat (first | exact (Kd.C_below HR1_1.out HB.out) | (with_reducible refine Kd.C_alloc ?_ _) | (with_reducible refine Kd.C_drewN ?_ _) | (with_reducible refine Kd.C_drew ?_)))
         (case side2 => exact HC1_1.out)
         rintro e w38 ⟨rfl, hb⟩
         refine ⟨_, rfl, ?_⟩
         replace BK469 := Aside0.mk (blk_below (g := gb469) (o := .cells #[.int .i64 a0_0, .slice (some ad472) l0_1.length c0_1] 25 (0, 0)) zq60_4 hb)
         replace BK470 := Aside0.mk (blk_below (g := gb470) (o := .cells #[.int .i64 a1_0, .slice A1_1 l1_1.length c1_1] 25 (0, 0)) zq60_5 hb)
         replace HB := Aside0.mk (below_step zq60_0 hb)
         (try clear hb)
         (try clear hb2)
         (try clear hk)
         (try clear hi)
         refine hK.out _ _ ⟨(blk_cell BK470.out 0).trans rfl, (blk_cell BK470.out 1).trans rfl, (blk_cell BK469.out 0).trans rfl, (blk_cell BK469.out 1).trans rfl, ((HB.out.cell (World.block_lt_of_cell? w _ hw472_0)).trans hw472_0)⟩ (fun hHeld => ?_)
         clear hK K
         refine norm_ (a' := ?_) ?_ ?_
         rotate_left
         ·show Act.put _ (some 38) _ = _
          simp only [Act.put, List.setIfInBounds_toArray, List.set_cons_zero, List.set_cons_succ, i64_w, i32_w]
          rfl
         refine p_ 7 39 (mk_ 8 0xff) ?_
         refine done_ (done_of HT_.out (by kernel_rfl)) ?_
         try go_wp2
         go_ret
         exact ⟨by first | rfl | (simp [errW_none, errW_some] <;> rfl) | (simp [*, errW_none, errW_some] <;> rfl), by repeat (first | (with_reducible first | exact HB.out | apply below_alloc | apply pw_below_drewN | apply below_drew1 | refine below_set ?_ GE469.out | refine below_set ?_ GE470.out) | exact HB.out)⟩
       ·rw [if_neg c28] at H
        exact absurd H (by simp)
      ·rw [if_neg c27] at H
       have c27b0 : decide (x6_2 < (l0_1.length : Int)) = false := decide_eq_false c27
       clear c27
       obtain rfl := Option.some.inj H
       have hnb39 := NB469_470.out
       have hnc39 := NB470_469.out
       have hcz40_0 : wr.cell? ⟨gb469, 0, none⟩ = some (.int .i64 a0_0) := (blk_cell BK469.out 0).trans rfl
       have hcz40_1 : wr.cell? ⟨gb469, 1, none⟩ = some (.slice A0_1 l0_1.length c0_1) := (blk_cell BK469.out 1).trans rfl
       have hfz40_0 := blk_frozen BK469.out 0
       have hfz40_1 := blk_frozen BK469.out 1
       go_wp2
       go_ret
       exact ⟨by first | rfl | (simp [errW_none, errW_some] <;> rfl) | (simp [*, errW_none, errW_some] <;> rfl), by repeat (first | (with_reducible first | exact HB.out | apply below_alloc | apply pw_below_drewN | apply below_drew1 | refine below_set ?_ GE469.out | refine below_set ?_ GE470.out) | exact HB.out)⟩

/-! ### cenotaphref04_Within: function 31 -/
theorem zq31_0 {p_ : Prop} (h_ : p_ := by (try simp only [List.map_toArray, List.map_cons, List.map_nil]); first | done | rfl | (simp only [List.length_drop, List.length_take]; rfl)) : p_ := h_
theorem zq31_1 {p_ : Prop} (h_ : p_ := by repeat (first | (with_reducible first | exact HB.out | apply below_alloc | apply pw_below_drewN | apply below_drew1) | exact HB.out)) : p_ := h_
theorem zq31_2 {p_ : Prop} (h_ : p_ := by first | (with_reducible assumption) | assumption) : p_ := h_
def cenotaphref04_Within.l0 : Nat → List (S27) → List (S27) → Int → Option (Bool)
 | 0, _, _, _ => none
 | k + 1, x0, x1, x5 => if x5 < (x0.length : Int) then (if 0 ≤ x5 then ((cenotaphref04_Of.f k x1 ((rd_T27 x0 x5).f0)).bind fun bt476 => ((cenotaphref02_Within.f k ((rd_T27 x0 x5).f1.f0) ((rd_T27 x0 x5).f1.f1) bt476.1 bt476.2).bind fun t480 => (if t480 = true then (cenotaphref04_Within.l0 k x0 x1 (wrap64 (x5 + 1))) else (some false)))) else (none)) else (some true)
def cenotaphref04_Within.f (k : Nat) (l0 : List (S27)) (l1 : List (S27)) : Option (Bool) := cenotaphref04_Within.l0 k l0 l1 0
theorem cenotaphref04_Within.mono_l : ∀ k, (∀ y0 y1 y2, LeO (cenotaphref04_Within.l0 k y0 y1 y2) (cenotaphref04_Within.l0 (k + 1) y0 y1 y2))
 | 0 => fun _ _ _ r h => by simp [cenotaphref04_Within.l0] at h
 | k + 1 => by
  have ih0 := cenotaphref04_Within.mono_l k
  ·intro y0 y1 y2
   unfold cenotaphref04_Within.l0
   repeat' first
   | (with_reducible exact ih0 _ _ _)
   | (with_reducible exact cenotaphref02_Within.mono _ _ _ _ _)
   | (with_reducible exact cenotaphref04_Of.mono _ _ _)
   | (with_reducible exact LeO.refl _)
   | (with_reducible exact LeO.none _)
   | (with_reducible refine LeO.ite ?_ ?_)
   | (with_reducible refine LeO.bind ?_ (fun _ => ?_))
   | exact ih0 _ _ _
   | exact cenotaphref02_Within.mono _ _ _ _ _
   | exact cenotaphref04_Of.mono _ _ _
   | exact LeO.none _
   | refine LeO.ite ?_ ?_
   | refine LeO.bind ?_ (fun _ => ?_)
theorem cenotaphref04_Within.mono : ∀ a0 a1 k, LeO (cenotaphref04_Within.f k a0 a1) (cenotaphref04_Within.f (k + 1) a0 a1) := by
 intro a0 a1 k
 have ih0 := cenotaphref04_Within.mono_l k
 unfold cenotaphref04_Within.f
 repeat' first
   | (with_reducible exact ih0 _ _ _)
   | (with_reducible exact cenotaphref02_Within.mono _ _ _ _ _)
   | (with_reducible exact cenotaphref04_Of.mono _ _ _)
   | (with_reducible exact LeO.refl _)
   | (with_reducible exact LeO.none _)
   | (with_reducible refine LeO.ite ?_ ?_)
   | (with_reducible refine LeO.bind ?_ (fun _ => ?_))
   | exact ih0 _ _ _
   | exact cenotaphref02_Within.mono _ _ _ _ _
   | exact cenotaphref04_Of.mono _ _ _
   | exact LeO.none _
   | refine LeO.ite ?_ ?_
   | refine LeO.bind ?_ (fun _ => ?_)
def cenotaphref04_Within.T4 : Bool × List (List Nat × List Nat) := (true, [([], []), ([], []), ([0, 1], [0, 1]), ([2], [2]), ([3], [3]), ([], []), ([], []), ([], []), ([6, 7], [6, 7]), ([8], [8]), ([9], [9]), ([5, 10], [5, 10]), ([4, 11, 11], [4, 11]), ([12], [12])])
def cenotaphref04_Within.B4 : List Nat := [0, 0, 3, 7, 15, 0, 0, 0, 192, 448, 960, 2016, 4095, 8191]
theorem cenotaphref04_Within.tab4 : rtab .any (opsOf Try.f31 4) = cenotaphref04_Within.T4 := by kernel_rfl
theorem cenotaphref04_Within.bits4 : waitsOk cenotaphref04_Within.T4.2 cenotaphref04_Within.B4 = true := by kernel_rfl
set_option maxHeartbeats 8000000 in
set_option maxRecDepth 100000 in
theorem cenotaphref04_Within.calls (k : Nat) (A0 : Option Addr) (c0 : Nat) (l0 : List (S27)) (A1 : Option Addr) (c1 : Nat) (l1 : List (S27)) (r : Bool) (w : World) (hr0 : Kd.C k27 w A0 l0.length l0) (hc0 : l0.length ≤ c0) (hr1 : Kd.C k27 w A1 l1.length l1) (hc1 : l1.length ≤ c1) (h : cenotaphref04_Within.f k l0 l1 = some r) :
  Calls Try.prog 31 #[.slice A0 l0.length c0, .slice A1 l1.length c1] w fun e w' => e = .returned (.bool r) ∧ Below w.heap.size w w' := by
 have hu25 := Try.underlying25
 have HR0 := Aside0.mk hr0
 have HC0 := Aside0.mk hc0
 clear hr0 hc0
 have HR1 := Aside0.mk hr1
 have HC1 := Aside0.mk hc1
 clear hr1 hc1
 have HB := Aside0.mk (Below.refl w.heap.size w)
 have H : (cenotaphref04_Within.l0 k l0 l1 0) = some r := h
 clear h
 have H' := Aside0.mk H
 clear H
 go_enter Try.func31, Try.ntmps31
 go_wp2
 go_loopg [5] k (fun kq v5 w' => ∃ (x5_1 : Int), v5 = .int .i64 x5_1 ∧ Aside0 (cenotaphref04_Within.l0 kq l0 l1 x5_1 = some r) ∧ Aside0 (kq ≤ k) ∧ Aside0 (Below w.heap.size w w'))
 case atStart => exact ⟨(0), (by first | rfl | (simp; done) | (simp [*]; done)), H', ⟨Nat.le_refl _⟩, ⟨by repeat (first | (with_reducible first | exact HB.out | apply below_alloc | apply pw_below_drewN | apply below_drew1) | exact HB.out)⟩⟩
 case round =>
  clear H'
  try clear c1
  try clear p2
  obtain ⟨x5_1, rfl, HA, HK1, HB⟩ := hrel
  cases gk with
  | zero => exact absurd HA.out (by simp [cenotaphref04_Within.l0])
  | succ k1 =>
   have H := HA.out
   clear HA
   simp only [cenotaphref04_Within.l0] at H
   by_cases c3 : x5_1 < (l0.length : Int)
   ·rw [if_pos c3] at H
    have c3b0 : decide (x5_1 < (l0.length : Int)) = true := decide_eq_true c3
    clear c3
    by_cases c4 : 0 ≤ x5_1
    ·rw [if_pos c4] at H
     have c4b0 : decide (0 ≤ x5_1) = true := decide_eq_true c4
     clear c4
     replace H := Option.bind_eq_some_iff.mp H
     obtain ⟨⟨t476, t477⟩, A50, H⟩ := H
     have A5 := Aside0.mk A50
     clear A50
     replace H := Option.bind_eq_some_iff.mp H
     obtain ⟨t480, A60, H⟩ := H
     have A6 := Aside0.mk A60
     clear A60
     by_cases c7 : t480 = true
     ·subst c7
      have H1 : (cenotaphref04_Within.l0 k1 l0 l1 (wrap64 (x5_1 + 1))) = some r := by rw [if_pos rfl] at H; exact H
      clear H
      have H := H1
      clear H1
      have H' := Aside0.mk H
      clear H
      try go_wp2
      replace HB := Aside0.mk (below_drew1 HB.out)
      have p474 : 0 ≤ (x5_1 : Int) := of_decide_eq_true zq31_2
      have q474 : x5_1 < (l0.length : Int) := of_decide_eq_true zq31_2
      obtain ⟨ad474, A474_2, c474_2, e474, hx474_0, hx474_1, hx474_2, hl474_2, hi474_2⟩ := at_T27 HR0.out x5_1 p474 q474
      have hw474_2 := hx474_2
      have hw474_1 := hx474_1
      have hw474_0 := hx474_0
      cases e474
      replace hx474_0 := (HB.out.cell (World.block_lt_of_cell? w _ hx474_0)).trans hx474_0
      replace hx474_1 := (HB.out.cell (World.block_lt_of_cell? w _ hx474_1)).trans hx474_1
      replace hx474_2 := (HB.out.cell (World.block_lt_of_cell? w _ hx474_2)).trans hx474_2
      have HR474_2 := Aside0.mk hi474_2
      have HC474_2 := Aside0.mk hl474_2
      clear hi474_2 hl474_2
      replace p474 := eq_true p474
      replace q474 := eq_true q474
      have p475 : 0 ≤ (x5_1 : Int) := of_decide_eq_true zq31_2
      have q475 : x5_1 < (l0.length : Int) := of_decide_eq_true zq31_2
      obtain ⟨ad475, A475_2, c475_2, e475, hx475_0, hx475_1, hx475_2, hl475_2, hi475_2⟩ := at_T27 HR0.out x5_1 p475 q475
      have hw475_2 := hx475_2
      have hw475_1 := hx475_1
      have hw475_0 := hx475_0
      obtain rfl : ad474 = ad475 := (by injection e475)
      replace hx475_0 := (HB.out.cell (World.block_lt_of_cell? w _ hx475_0)).trans hx475_0
      replace hx475_1 := (HB.out.cell (World.block_lt_of_cell? w _ hx475_1)).trans hx475_1
      replace hx475_2 := (HB.out.cell (World.block_lt_of_cell? w _ hx475_2)).trans hx475_2
      have HR475_2 := Aside0.mk hi475_2
      have HC475_2 := Aside0.mk hl475_2
      clear hi475_2 hl475_2
      replace p475 := eq_true p475
      replace q475 := eq_true q475
      have ea_ := Option.some.inj (hx474_2.symm.trans hx475_2)
      injection ea_ with ea_ en_ ec_
      subst ea_
      subst ec_
      clear en_
      refine start_ (n := 14) (S := fun w' => w'.cell? (ad474.add ((x5_1).toNat * 3)) = some (.string ((rd_T27 l0 x5_1).f0)) ∧ w'.cell? ⟨(ad474.add ((x5_1).toNat * 3)).block, (ad474.add ((x5_1).toNat * 3)).off + 1, none⟩ = some (.int .i64 ((rd_T27 l0 x5_1).f1.f0)) ∧ w'.cell? ⟨(ad474.add ((x5_1).toNat * 3)).block, (ad474.add ((x5_1).toNat * 3)).off + 2, none⟩ = some (.slice A474_2 ((rd_T27 l0 x5_1).f1.f1).length c474_2) ∧ w'.cell? (ad474.add ((x5_1).toNat * 3)) = some (.string ((rd_T27 l0 x5_1).f0)) ∧ w'.cell? ⟨(ad474.add ((x5_1).toNat * 3)).block, (ad474.add ((x5_1).toNat * 3)).off + 1, none⟩ = some (.int .i64 ((rd_T27 l0 x5_1).f1.f0)) ∧ w'.cell? ⟨(ad474.add ((x5_1).toNat * 3)).block, (ad474.add ((x5_1).toNat * 3)).off + 2, none⟩ = some (.slice A474_2 ((rd_T27 l0 x5_1).f1.f1).length c474_2)) (ds := []) #[false, false, false, false, false, false, false, false, false, false, false, false, false, false] (by kernel_rfl) rfl rfl ⟨((HB.out.cell (World.block_lt_of_cell? w _ hw474_0)).trans hw474_0), ((HB.out.cell (World.block_lt_of_cell? w _ hw474_1)).trans hw474_1), ((HB.out.cell (World.block_lt_of_cell? w _ hw474_2)).trans hw474_2), ((HB.out.cell (World.block_lt_of_cell? w _ hw475_0)).trans hw475_0), ((HB.out.cell (World.block_lt_of_cell? w _ hw475_1)).trans hw475_1), ((HB.out.cell (World.block_lt_of_cell? w _ hw475_2)).trans hw475_2)⟩ (fun hHeld => ?_); refine with_tabW cenotaphref04_Within.tab4 cenotaphref04_Within.bits4 (fun HT_ HW_ => ?_)
      generalize wr.drew = w8 at HB HR474_2 HR475_2 hx474_0 hx474_1 hx474_2 hx475_0 hx475_1 hx475_2 hHeld ⊢
      refine p_ 0 12 (mk_ 14 0x1) ?_
      refine p_ 1 13 (mk_ 14 0x3) ?_
      refine p_ 2 14 (mk_ 14 0x7) ?_
      refine p_ 3 15 (mk_ 14 0xf) ?_
      refine p_ 5 17 (mk_ 14 0x2f) ?_
      refine p_ 6 18 (mk_ 14 0x6f) ?_
      refine p_ 7 19 (mk_ 14 0xef) ?_
      refine p_ 8 20 (mk_ 14 0x1ef) ?_
      refine p_ 9 21 (mk_ 14 0x3ef) ?_
      refine t_ 4 16 (mk_ 14 0x3ff) hHeld ?_
      refine t_ 10 22 (mk_ 14 0x7ff) hHeld ?_
      refine one_ (i := 11) (N := some 23) #[true, true, true, true, true, true, true, true, true, true, true, true, false, false] rfl rfl (one_of HT_.out (by kernel_rfl)) (by decide) (fun K hK => ?_)
      refine goes_ Try.func21 (by kernel_rfl) rfl #[.slice A1 l1.length c1, .string ((rd_T27 l0 x5_1).f0)] (by rfl) rfl rfl zq31_0 ?_
      with_reducible refine (cenotaphref04_Of.calls k1 (fun k_ => k_ < w.heap.size) _ _ l1 ((rd_T27 l0 x5_1).f0) t476 t477 _ ?side1 A5.out).mono ?_
      (case side1 => exact Kd.V_mk HC1.out (Kd.F_below (Kd.C_F k27_heap HR1.out) zq31_1))
      rintro e w9 ⟨v478, rfl, ho0, hb⟩
      refine ⟨_, rfl, ?_⟩
      have HO479 := Aside0.mk (Kd.V_lower (Kd.V_mono (ok' := fun k_ => True) ho0 (fun k_ hk_ => trivial)) (below_size zq31_1))
      replace HB := Aside0.mk (below_step zq31_1 hb)
      (try clear hb)
      (try clear hb2)
      (try clear hk)
      (try clear hi)
      (try clear ho0)
      obtain ⟨Ao10, co10, eo10⟩ := Kd.V_slice HO479.out
      (first | subst eo10 | (injection eo10 with f1_ f2_ f3_; have f4_ := f1_.symm; have f5_ := f3_.symm; clear f1_ f2_ f3_; subst f4_; subst f5_))
      refine hK.out _ _ ⟨((HB.out.cell (World.block_lt_of_cell? w _ hw474_0)).trans hw474_0), ((HB.out.cell (World.block_lt_of_cell? w _ hw474_1)).trans hw474_1), ((HB.out.cell (World.block_lt_of_cell? w _ hw474_2)).trans hw474_2), ((HB.out.cell (World.block_lt_of_cell? w _ hw475_0)).trans hw475_0), ((HB.out.cell (World.block_lt_of_cell? w _ hw475_1)).trans hw475_1), ((HB.out.cell (World.block_lt_of_cell? w _ hw475_2)).trans hw475_2)⟩ (fun hHeld => ?_)
      clear hK K
      refine norm_ (a' := ?_) ?_ ?_
      rotate_left
      ·show Act.put _ (some 23) _ = _
       simp only [Act.put, List.setIfInBounds_toArray, List.set_cons_zero, List.set_cons_succ, i64_w, i32_w]
       rfl
      refine one_ (i := 12) (N := some 24) #[true, true, true, true, true, true, true, true, true, true, true, true, true, false] rfl rfl (one_of HT_.out (by kernel_rfl)) (by decide) (fun K hK => ?_)
      refine goes_ Try.func60 (by kernel_rfl) rfl #[.agg #[.int .i64 ((rd_T27 l0 x5_1).f1.f0), .slice A474_2 ((rd_T27 l0 x5_1).f1.f1).length c474_2], .agg #[.int .i64 t476, .slice Ao10 t477.length co10]] (by rfl) rfl rfl zq31_0 ?_
      with_reducible refine (cenotaphref02_Within.calls k1 ((rd_T27 l0 x5_1).f1.f0) _ _ ((rd_T27 l0 x5_1).f1.f1) t476 _ _ t477 true _ ?side1 ?side2 ?side3 ?side4 A6.out).mono ?_
      (case side1 => repeat (first | exact (Kd.C_below HR474_2.out HB.out) | (with_reducible refine Kd.C_alloc ?_ _) | (with_reducible refine Kd.C_drewN ?_ _) | (with_reducible refine Kd.C_drew ?_)))
      (case side2 => exact HC474_2.out)
      (case side3 => repeat (first | exact (Kd.V_reads' HO479.out).2.2 | (with_reducible refine Kd.C_alloc ?_ _) | (with_reducible refine Kd.C_drewN ?_ _) | (with_reducible refine Kd.C_drew ?_)))
      (case side4 => exact (Kd.V_reads' HO479.out).2.1)
      rintro e w11 ⟨rfl, hb⟩
      refine ⟨_, rfl, ?_⟩
      replace HO479 := Aside0.mk (Kd.V_below (by (with_reducible repeat (first | apply Kd.V_alloc | apply Kd.V_drewN | apply Kd.V_drew)); exact HO479.out) hb)
      replace HB := Aside0.mk (below_step zq31_1 hb)
      (try clear hb)
      (try clear hb2)
      (try clear hk)
      (try clear hi)
      refine hK.out _ _ ⟨((HB.out.cell (World.block_lt_of_cell? w _ hw474_0)).trans hw474_0), ((HB.out.cell (World.block_lt_of_cell? w _ hw474_1)).trans hw474_1), ((HB.out.cell (World.block_lt_of_cell? w _ hw474_2)).trans hw474_2), ((HB.out.cell (World.block_lt_of_cell? w _ hw475_0)).trans hw475_0), ((HB.out.cell (World.block_lt_of_cell? w _ hw475_1)).trans hw475_1), ((HB.out.cell (World.block_lt_of_cell? w _ hw475_2)).trans hw475_2)⟩ (fun hHeld => ?_)
      clear hK K
      refine norm_ (a' := ?_) ?_ ?_
      rotate_left
      ·show Act.put _ (some 24) _ = _
       simp only [Act.put, List.setIfInBounds_toArray, List.set_cons_zero, List.set_cons_succ, i64_w, i32_w]
       rfl
      refine p_ 13 25 (mk_ 14 0x3fff) ?_
      refine done_ (done_of HT_.out (by kernel_rfl)) ?_
      try go_wp2
      go_roundg k1
      case measure => have := HK1.out; omega
      case rel => exact ⟨(wrap64 (x5_1 + 1)), (by first | rfl | (simp; done) | (simp [*]; done)), H', ⟨by have := HK1.out; omega⟩, ⟨by repeat (first | (with_reducible first | exact HB.out | apply below_alloc | apply pw_below_drewN | apply below_drew1) | exact HB.out)⟩⟩
     ·replace c7 := Bool.eq_false_iff.mpr c7
      subst c7
      have H1 : (some false) = some r := by rw [if_neg (show ¬ (false = true) by decide)] at H; exact H
      clear H
      have H := H1
      clear H1
      obtain rfl := Option.some.inj H
      try go_wp2
      replace HB := Aside0.mk (below_drew1 HB.out)
      have p474 : 0 ≤ (x5_1 : Int) := of_decide_eq_true zq31_2
      have q474 : x5_1 < (l0.length : Int) := of_decide_eq_true zq31_2
      obtain ⟨ad474, A474_2, c474_2, e474, hx474_0, hx474_1, hx474_2, hl474_2, hi474_2⟩ := at_T27 HR0.out x5_1 p474 q474
      have hw474_2 := hx474_2
      have hw474_1 := hx474_1
      have hw474_0 := hx474_0
      cases e474
      replace hx474_0 := (HB.out.cell (World.block_lt_of_cell? w _ hx474_0)).trans hx474_0
      replace hx474_1 := (HB.out.cell (World.block_lt_of_cell? w _ hx474_1)).trans hx474_1
      replace hx474_2 := (HB.out.cell (World.block_lt_of_cell? w _ hx474_2)).trans hx474_2
      have HR474_2 := Aside0.mk hi474_2
      have HC474_2 := Aside0.mk hl474_2
      clear hi474_2 hl474_2
      replace p474 := eq_true p474
      replace q474 := eq_true q474
      have p475 : 0 ≤ (x5_1 : Int) := of_decide_eq_true zq31_2
      have q475 : x5_1 < (l0.length : Int) := of_decide_eq_true zq31_2
      obtain ⟨ad475, A475_2, c475_2, e475, hx475_0, hx475_1, hx475_2, hl475_2, hi475_2⟩ := at_T27 HR0.out x5_1 p475 q475
      have hw475_2 := hx475_2
      have hw475_1 := hx475_1
      have hw475_0 := hx475_0
      obtain rfl : ad474 = ad475 := (by injection e475)
      replace hx475_0 := (HB.out.cell (World.block_lt_of_cell? w _ hx475_0)).trans hx475_0
      replace hx475_1 := (HB.out.cell (World.block_lt_of_cell? w _ hx475_1)).trans hx475_1
      replace hx475_2 := (HB.out.cell (World.block_lt_of_cell? w _ hx475_2)).trans hx475_2
      have HR475_2 := Aside0.mk hi475_2
      have HC475_2 := Aside0.mk hl475_2
      clear hi475_2 hl475_2
      replace p475 := eq_true p475
      replace q475 := eq_true q475
      have ea_ := Option.some.inj (hx474_2.symm.trans hx475_2)
      injection ea_ with ea_ en_ ec_
      subst ea_
      subst ec_
      clear en_
      refine start_ (n := 14) (S := fun w' => w'.cell? (ad474.add ((x5_1).toNat * 3)) = some (.string ((rd_T27 l0 x5_1).f0)) ∧ w'.cell? ⟨(ad474.add ((x5_1).toNat * 3)).block, (ad474.add ((x5_1).toNat * 3)).off + 1, none⟩ = some (.int .i64 ((rd_T27 l0 x5_1).f1.f0)) ∧ w'.cell? ⟨(ad474.add ((x5_1).toNat * 3)).block, (ad474.add ((x5_1).toNat * 3)).off + 2, none⟩ = some (.slice A474_2 ((rd_T27 l0 x5_1).f1.f1).length c474_2) ∧ w'.cell? (ad474.add ((x5_1).toNat * 3)) = some (.string ((rd_T27 l0 x5_1).f0)) ∧ w'.cell? ⟨(ad474.add ((x5_1).toNat * 3)).block, (ad474.add ((x5_1).toNat * 3)).off + 1, none⟩ = some (.int .i64 ((rd_T27 l0 x5_1).f1.f0)) ∧ w'.cell? ⟨(ad474.add ((x5_1).toNat * 3)).block, (ad474.add ((x5_1).toNat * 3)).off + 2, none⟩ = some (.slice A474_2 ((rd_T27 l0 x5_1).f1.f1).length c474_2)) (ds := []) #[false, false, false, false, false, false, false, false, false, false, false, false, false, false] (by kernel_rfl) rfl rfl ⟨((HB.out.cell (World.block_lt_of_cell? w _ hw474_0)).trans hw474_0), ((HB.out.cell (World.block_lt_of_cell? w _ hw474_1)).trans hw474_1), ((HB.out.cell (World.block_lt_of_cell? w _ hw474_2)).trans hw474_2), ((HB.out.cell (World.block_lt_of_cell? w _ hw475_0)).trans hw475_0), ((HB.out.cell (World.block_lt_of_cell? w _ hw475_1)).trans hw475_1), ((HB.out.cell (World.block_lt_of_cell? w _ hw475_2)).trans hw475_2)⟩ (fun hHeld => ?_); refine with_tabW cenotaphref04_Within.tab4 cenotaphref04_Within.bits4 (fun HT_ HW_ => ?_)
      generalize wr.drew = w12 at HB HR474_2 HR475_2 hx474_0 hx474_1 hx474_2 hx475_0 hx475_1 hx475_2 hHeld ⊢
      refine p_ 0 12 (mk_ 14 0x1) ?_
      refine p_ 1 13 (mk_ 14 0x3) ?_
      refine p_ 2 14 (mk_ 14 0x7) ?_
      refine p_ 3 15 (mk_ 14 0xf) ?_
      refine p_ 5 17 (mk_ 14 0x2f) ?_
      refine p_ 6 18 (mk_ 14 0x6f) ?_
      refine p_ 7 19 (mk_ 14 0xef) ?_
      refine p_ 8 20 (mk_ 14 0x1ef) ?_
      refine p_ 9 21 (mk_ 14 0x3ef) ?_
      refine t_ 4 16 (mk_ 14 0x3ff) hHeld ?_
      refine t_ 10 22 (mk_ 14 0x7ff) hHeld ?_
      refine one_ (i := 11) (N := some 23) #[true, true, true, true, true, true, true, true, true, true, true, true, false, false] rfl rfl (one_of HT_.out (by kernel_rfl)) (by decide) (fun K hK => ?_)
      refine goes_ Try.func21 (by kernel_rfl) rfl #[.slice A1 l1.length c1, .string ((rd_T27 l0 x5_1).f0)] (by rfl) rfl rfl zq31_0 ?_
      with_reducible refine (cenotaphref04_Of.calls k1 (fun k_ => k_ < w.heap.size) _ _ l1 ((rd_T27 l0 x5_1).f0) t476 t477 _ ?side1 A5.out).mono ?_
      (case side1 => exact Kd.V_mk HC1.out (Kd.F_below (Kd.C_F k27_heap HR1.out) zq31_1))
      rintro e w13 ⟨v478, rfl, ho0, hb⟩
      refine ⟨_, rfl, ?_⟩
      have HO479 := Aside0.mk (Kd.V_lower (Kd.V_mono (ok' := fun k_ => True) ho0 (fun k_ hk_ => trivial)) (below_size zq31_1))
      replace HB := Aside0.mk (below_step zq31_1 hb)
      (try clear hb)
      (try clear hb2)
      (try clear hk)
      (try clear hi)
      (try clear ho0)
      obtain ⟨Ao14, co14, eo14⟩ := Kd.V_slice HO479.out
      (first | subst eo14 | (injection eo14 with f1_ f2_ f3_; have f4_ := f1_.symm; have f5_ := f3_.symm; clear f1_ f2_ f3_; subst f4_; subst f5_))
      refine hK.out _ _ ⟨((HB.out.cell (World.block_lt_of_cell? w _ hw474_0)).trans hw474_0), ((HB.out.cell (World.block_lt_of_cell? w _ hw474_1)).trans hw474_1), ((HB.out.cell (World.block_lt_of_cell? w _ hw474_2)).trans hw474_2), ((HB.out.cell (World.block_lt_of_cell? w _ hw475_0)).trans hw475_0), ((HB.out.cell (World.block_lt_of_cell? w _ hw475_1)).trans hw475_1), ((HB.out.cell (World.block_lt_of_cell? w _ hw475_2)).trans hw475_2)⟩ (fun hHeld => ?_)
      clear hK K
      refine norm_ (a' := ?_) ?_ ?_
      rotate_left
      ·show Act.put _ (some 23) _ = _
       simp only [Act.put, List.setIfInBounds_toArray, List.set_cons_zero, List.set_cons_succ, i64_w, i32_w]
       rfl
      refine one_ (i := 12) (N := some 24) #[true, true, true, true, true, true, true, true, true, true, true, true, true, false] rfl rfl (one_of HT_.out (by kernel_rfl)) (by decide) (fun K hK => ?_)
      refine goes_ Try.func60 (by kernel_rfl) rfl #[.agg #[.int .i64 ((rd_T27 l0 x5_1).f1.f0), .slice A474_2 ((rd_T27 l0 x5_1).f1.f1).length c474_2], .agg #[.int .i64 t476, .slice Ao14 t477.length co14]] (by rfl) rfl rfl zq31_0 ?_
      with_reducible refine (cenotaphref02_Within.calls k1 ((rd_T27 l0 x5_1).f1.f0) _ _ ((rd_T27 l0 x5_1).f1.f1) t476 _ _ t477 false _ ?side1 ?side2 ?side3 ?side4 A6.out).mono ?_
      (case side1 => repeat (first | exact (Kd.C_below HR474_2.out HB.out) | (with_reducible refine Kd.C_alloc ?_ _) | (with_reducible refine Kd.C_drewN ?_ _) | (with_reducible refine Kd.C_drew ?_)))
      (case side2 => exact HC474_2.out)
      (case side3 => repeat (first | exact (Kd.V_reads' HO479.out).2.2 | (with_reducible refine Kd.C_alloc ?_ _) | (with_reducible refine Kd.C_drewN ?_ _) | (with_reducible refine Kd.C_drew ?_)))
      (case side4 => exact (Kd.V_reads' HO479.out).2.1)
      rintro e w15 ⟨rfl, hb⟩
      refine ⟨_, rfl, ?_⟩
      replace HO479 := Aside0.mk (Kd.V_below (by (with_reducible repeat (first | apply Kd.V_alloc | apply Kd.V_drewN | apply Kd.V_drew)); exact HO479.out) hb)
      replace HB := Aside0.mk (below_step zq31_1 hb)
      (try clear hb)
      (try clear hb2)
      (try clear hk)
      (try clear hi)
      refine hK.out _ _ ⟨((HB.out.cell (World.block_lt_of_cell? w _ hw474_0)).trans hw474_0), ((HB.out.cell (World.block_lt_of_cell? w _ hw474_1)).trans hw474_1), ((HB.out.cell (World.block_lt_of_cell? w _ hw474_2)).trans hw474_2), ((HB.out.cell (World.block_lt_of_cell? w _ hw475_0)).trans hw475_0), ((HB.out.cell (World.block_lt_of_cell? w _ hw475_1)).trans hw475_1), ((HB.out.cell (World.block_lt_of_cell? w _ hw475_2)).trans hw475_2)⟩ (fun hHeld => ?_)
      clear hK K
      refine norm_ (a' := ?_) ?_ ?_
      rotate_left
      ·show Act.put _ (some 24) _ = _
       simp only [Act.put, List.setIfInBounds_toArray, List.set_cons_zero, List.set_cons_succ, i64_w, i32_w]
       rfl
      refine p_ 13 25 (mk_ 14 0x3fff) ?_
      refine done_ (done_of HT_.out (by kernel_rfl)) ?_
      try go_wp2
      go_ret
      exact ⟨by first | rfl | (simp [errW_none, errW_some] <;> rfl) | (simp [*, errW_none, errW_some] <;> rfl), by repeat (first | (with_reducible first | exact HB.out | apply below_alloc | apply pw_below_drewN | apply below_drew1) | exact HB.out)⟩
    ·rw [if_neg c4] at H
     exact absurd H (by simp)
   ·rw [if_neg c3] at H
    have c3b0 : decide (x5_1 < (l0.length : Int)) = false := decide_eq_false c3
    clear c3
    obtain rfl := Option.some.inj H
    go_wp2
    go_ret
    exact ⟨by first | rfl | (simp [errW_none, errW_some] <;> rfl) | (simp [*, errW_none, errW_some] <;> rfl), by repeat (first | (with_reducible first | exact HB.out | apply below_alloc | apply pw_below_drewN | apply below_drew1) | exact HB.out)⟩

/-! ### cenotaphlaw04_KnowUnions: function 5 -/
def cenotaphlaw04_KnowUnions.f (k : Nat) (l0 : List S27) (l1 : List S27) (l2 : List S27) : Option Bool := (cenotaphref04_Fix.f k l0).bind fun a => (cenotaphref04_Fix.f k l1).bind fun b => (cenotaphref04_Fix.f k l2).bind fun c => (cenotaphlaw04_To.f k a).bind fun x => (cenotaphlaw04_To.f k b).bind fun y => (cenotaphlaw04_To.f k c).bind fun z => (know_Union.f k x y).bind fun u => (cenotaphlaw04_From.f k u).bind fun fu => (cenotaphref04_Union.f k a b).bind fun v1 => (know_Within.f k x y).bind fun i1 => (know_Same.f k x y).bind fun sm => (know_Union.f k y x).bind fun u2 => (know_Within.f k u z).bind fun i5 => (know_Within.f k x z).bind fun i6 => (know_Within.f k y z).bind fun i7 => 
 if cenotaphlaw04_told.f k = some true ∧ cenotaphref04_Same.f k fu v1 = some true ∧ cenotaphref04_Within.f k a b = some i1 ∧ cenotaphref04_Same.f k a b = some sm ∧ know_Right.f k u = some true ∧ know_Within.f k x u = some true ∧ know_Within.f k y u = some true ∧ know_Same.f k u u2 = some true ∧ i5 = (i6 && i7) then some true else none
set_option maxHeartbeats 6400000 in
set_option maxRecDepth 100000 in
theorem cenotaphlaw04_KnowUnions.calls (k : Nat) (A0 : Option Addr) (c0 : Nat) (l0 : List S27) (A1 : Option Addr) (c1 : Nat) (l1 : List S27) (A2 : Option Addr) (c2 : Nat) (l2 : List S27) (r : Bool) (w : World) (hr0 : Kd.C k27 w A0 l0.length l0) (hc0 : l0.length ≤ c0) (hr1 : Kd.C k27 w A1 l1.length l1) (hc1 : l1.length ≤ c1) (hr2 : Kd.C k27 w A2 l2.length l2) (hc2 : l2.length ≤ c2) (h : cenotaphlaw04_KnowUnions.f k l0 l1 l2 = some r) :
  Calls Try.prog 5 #[.slice A0 l0.length c0, .slice A1 l1.length c1, .slice A2 l2.length c2] w fun e w' => e = .returned (.bool r) ∧ Below w.heap.size w w' := by
 unfold cenotaphlaw04_KnowUnions.f at h
 obtain ⟨a, g_a, h⟩ := Option.bind_eq_some_iff.mp h
 replace g_a := Aside0.mk g_a
 obtain ⟨b, g_b, h⟩ := Option.bind_eq_some_iff.mp h
 replace g_b := Aside0.mk g_b
 obtain ⟨c, g_c, h⟩ := Option.bind_eq_some_iff.mp h
 replace g_c := Aside0.mk g_c
 obtain ⟨x, g_x, h⟩ := Option.bind_eq_some_iff.mp h
 replace g_x := Aside0.mk g_x
 obtain ⟨y, g_y, h⟩ := Option.bind_eq_some_iff.mp h
 replace g_y := Aside0.mk g_y
 obtain ⟨z, g_z, h⟩ := Option.bind_eq_some_iff.mp h
 replace g_z := Aside0.mk g_z
 obtain ⟨u, g_u, h⟩ := Option.bind_eq_some_iff.mp h
 replace g_u := Aside0.mk g_u
 obtain ⟨fu, g_fu, h⟩ := Option.bind_eq_some_iff.mp h
 replace g_fu := Aside0.mk g_fu
 obtain ⟨v1, g_v1, h⟩ := Option.bind_eq_some_iff.mp h
 replace g_v1 := Aside0.mk g_v1
 obtain ⟨i1, g_i1, h⟩ := Option.bind_eq_some_iff.mp h
 replace g_i1 := Aside0.mk g_i1
 obtain ⟨sm, g_sm, h⟩ := Option.bind_eq_some_iff.mp h
 replace g_sm := Aside0.mk g_sm
 obtain ⟨u2, g_u2, h⟩ := Option.bind_eq_some_iff.mp h
 replace g_u2 := Aside0.mk g_u2
 obtain ⟨i5, g_i5, h⟩ := Option.bind_eq_some_iff.mp h
 replace g_i5 := Aside0.mk g_i5
 obtain ⟨i6, g_i6, h⟩ := Option.bind_eq_some_iff.mp h
 replace g_i6 := Aside0.mk g_i6
 obtain ⟨i7, g_i7, h⟩ := Option.bind_eq_some_iff.mp h
 replace g_i7 := Aside0.mk g_i7
 split at h
 rotate_left
 ·cases h
 rename_i hc
 obtain rfl := Option.some.inj h
 clear h
 obtain ⟨d0, d1, d2, d3, d4, d5, d6, d7, e0⟩ := hc
 replace d0 := Aside0.mk d0
 replace d1 := Aside0.mk d1
 replace d2 := Aside0.mk d2
 replace d3 := Aside0.mk d3
 replace d4 := Aside0.mk d4
 replace d5 := Aside0.mk d5
 replace d6 := Aside0.mk d6
 replace d7 := Aside0.mk d7
 replace e0 := Aside0.mk e0
 have hsm := e0.out
 clear e0
 have hn1 : (i1 != i1) = false := by simp
 have hn2 : (sm != sm) = false := by simp
 have Hl0 := Aside0.mk (And.intro hc0 hr0)
 clear hc0 hr0
 have Hl1 := Aside0.mk (And.intro hc1 hr1)
 clear hc1 hr1
 have Hl2 := Aside0.mk (And.intro hc2 hr2)
 clear hc2 hr2
 have HB := Aside0.mk (Below.refl w.heap.size w)
 go_enter Try.func5, Try.ntmps5
 go_wp2_with fail
 refine (cenotaphref04_Fix.calls k A0 c0 l0 a w Hl0.out.2 Hl0.out.1 g_a.out).mono ?_
 rintro e w1 ⟨v, rfl, ho, hq⟩
 replace Hl0 := Aside0.mk (And.intro Hl0.out.1 (Kd.C_below Hl0.out.2 hq))
 replace Hl1 := Aside0.mk (And.intro Hl1.out.1 (Kd.C_below Hl1.out.2 hq))
 replace Hl2 := Aside0.mk (And.intro Hl2.out.1 (Kd.C_below Hl2.out.2 hq))
 replace HB := Aside0.mk (below_step HB.out hq)
 replace ho : Kd.V k27 27 w1 0 (fun _ => True) v a := Kd.V_mono ho (fun _ _ => trivial)
 obtain ⟨A_a, c_a, rfl⟩ := Kd.V_slice ho
 have Ha := Aside0.mk ho
 clear ho
 clear hq
 clear Hl0
 go_wp2_with fail
 refine (cenotaphref04_Fix.calls k A1 c1 l1 b w1 Hl1.out.2 Hl1.out.1 g_b.out).mono ?_
 rintro e w2 ⟨v, rfl, ho, hq⟩
 replace Hl1 := Aside0.mk (And.intro Hl1.out.1 (Kd.C_below Hl1.out.2 hq))
 replace Hl2 := Aside0.mk (And.intro Hl2.out.1 (Kd.C_below Hl2.out.2 hq))
 replace Ha := Aside0.mk (Kd.V_below Ha.out hq)
 replace HB := Aside0.mk (below_step HB.out hq)
 replace ho : Kd.V k27 27 w2 0 (fun _ => True) v b := Kd.V_mono ho (fun _ _ => trivial)
 obtain ⟨A_b, c_b, rfl⟩ := Kd.V_slice ho
 have Hb := Aside0.mk ho
 clear ho
 clear hq
 clear Hl1
 go_wp2_with fail
 refine (cenotaphref04_Fix.calls k A2 c2 l2 c w2 Hl2.out.2 Hl2.out.1 g_c.out).mono ?_
 rintro e w3 ⟨v, rfl, ho, hq⟩
 replace Hl2 := Aside0.mk (And.intro Hl2.out.1 (Kd.C_below Hl2.out.2 hq))
 replace Ha := Aside0.mk (Kd.V_below Ha.out hq)
 replace Hb := Aside0.mk (Kd.V_below Hb.out hq)
 replace HB := Aside0.mk (below_step HB.out hq)
 replace ho : Kd.V k27 27 w3 0 (fun _ => True) v c := Kd.V_mono ho (fun _ _ => trivial)
 obtain ⟨A_c, c_c, rfl⟩ := Kd.V_slice ho
 have Hc := Aside0.mk ho
 clear ho
 clear hq
 clear Hl2
 go_wp2_with fail
 refine (cenotaphlaw04_To.calls k A_a c_a a x w3 (Kd.V_reads' Ha.out).2.2 (Kd.V_reads' Ha.out).2.1 g_x.out).mono ?_
 rintro e w4 ⟨v, rfl, ho, hq⟩
 replace Ha := Aside0.mk (Kd.V_below Ha.out hq)
 replace Hb := Aside0.mk (Kd.V_below Hb.out hq)
 replace Hc := Aside0.mk (Kd.V_below Hc.out hq)
 replace HB := Aside0.mk (below_step HB.out hq)
 replace ho : Kd.V k61 61 w4 0 (fun _ => True) v x := Kd.V_mono (Kd.S_V ho) (fun _ _ => trivial)
 obtain ⟨A_x, c_x, rfl⟩ := Kd.V_slice ho
 have Hx := Aside0.mk ho
 clear ho
 clear hq
 go_wp2_with fail
 refine (cenotaphlaw04_To.calls k A_b c_b b y w4 (Kd.V_reads' Hb.out).2.2 (Kd.V_reads' Hb.out).2.1 g_y.out).mono ?_
 rintro e w5 ⟨v, rfl, ho, hq⟩
 replace Ha := Aside0.mk (Kd.V_below Ha.out hq)
 replace Hb := Aside0.mk (Kd.V_below Hb.out hq)
 replace Hc := Aside0.mk (Kd.V_below Hc.out hq)
 replace Hx := Aside0.mk (Kd.V_below Hx.out hq)
 replace HB := Aside0.mk (below_step HB.out hq)
 replace ho : Kd.V k61 61 w5 0 (fun _ => True) v y := Kd.V_mono (Kd.S_V ho) (fun _ _ => trivial)
 obtain ⟨A_y, c_y, rfl⟩ := Kd.V_slice ho
 have Hy := Aside0.mk ho
 clear ho
 clear hq
 go_wp2_with fail
 refine (cenotaphlaw04_To.calls k A_c c_c c z w5 (Kd.V_reads' Hc.out).2.2 (Kd.V_reads' Hc.out).2.1 g_z.out).mono ?_
 rintro e w6 ⟨v, rfl, ho, hq⟩
 replace Ha := Aside0.mk (Kd.V_below Ha.out hq)
 replace Hb := Aside0.mk (Kd.V_below Hb.out hq)
 replace Hc := Aside0.mk (Kd.V_below Hc.out hq)
 replace Hx := Aside0.mk (Kd.V_below Hx.out hq)
 replace Hy := Aside0.mk (Kd.V_below Hy.out hq)
 replace HB := Aside0.mk (below_step HB.out hq)
 replace ho : Kd.V k61 61 w6 0 (fun _ => True) v z := Kd.V_mono (Kd.S_V ho) (fun _ _ => trivial)
 obtain ⟨A_z, c_z, rfl⟩ := Kd.V_slice ho
 have Hz := Aside0.mk ho
 clear ho
 clear hq
 clear Hc
 go_wp2_with fail
 refine (know_Union.calls k A_x c_x x A_y c_y y u w6 (Kd.V_reads' Hx.out).2.2 (Kd.V_reads' Hx.out).2.1 (Kd.V_reads' Hy.out).2.2 (Kd.V_reads' Hy.out).2.1 g_u.out).mono ?_
 rintro e w7 ⟨v, rfl, ho, hq⟩
 replace Ha := Aside0.mk (Kd.V_below Ha.out hq)
 replace Hb := Aside0.mk (Kd.V_below Hb.out hq)
 replace Hx := Aside0.mk (Kd.V_below Hx.out hq)
 replace Hy := Aside0.mk (Kd.V_below Hy.out hq)
 replace Hz := Aside0.mk (Kd.V_below Hz.out hq)
 replace HB := Aside0.mk (below_step HB.out hq)
 replace ho : Kd.V k61 61 w7 0 (fun _ => True) v u := Kd.V_mono ho (fun _ _ => trivial)
 obtain ⟨A_u, c_u, rfl⟩ := Kd.V_slice ho
 have Hu := Aside0.mk ho
 clear ho
 clear hq
 go_wp2_with fail
 refine (cenotaphlaw04_told.calls k  true w7  d0.out).mono ?_
 rintro e w8 ⟨rfl, hq⟩
 replace Ha := Aside0.mk (Kd.V_below Ha.out hq)
 replace Hb := Aside0.mk (Kd.V_below Hb.out hq)
 replace Hx := Aside0.mk (Kd.V_below Hx.out hq)
 replace Hy := Aside0.mk (Kd.V_below Hy.out hq)
 replace Hz := Aside0.mk (Kd.V_below Hz.out hq)
 replace Hu := Aside0.mk (Kd.V_below Hu.out hq)
 replace HB := Aside0.mk (below_step HB.out hq)
 clear hq
 go_wp2_with fail
 refine (cenotaphlaw04_From.calls k A_u c_u u fu w8 (Kd.V_reads' Hu.out).2.2 (Kd.V_reads' Hu.out).2.1 g_fu.out).mono ?_
 rintro e w9 ⟨v, rfl, ho, hq⟩
 replace Ha := Aside0.mk (Kd.V_below Ha.out hq)
 replace Hb := Aside0.mk (Kd.V_below Hb.out hq)
 replace Hx := Aside0.mk (Kd.V_below Hx.out hq)
 replace Hy := Aside0.mk (Kd.V_below Hy.out hq)
 replace Hz := Aside0.mk (Kd.V_below Hz.out hq)
 replace Hu := Aside0.mk (Kd.V_below Hu.out hq)
 replace HB := Aside0.mk (below_step HB.out hq)
 replace ho : Kd.V k27 27 w9 0 (fun _ => True) v fu := Kd.V_mono (Kd.S_V ho) (fun _ _ => trivial)
 obtain ⟨A_fu, c_fu, rfl⟩ := Kd.V_slice ho
 have Hfu := Aside0.mk ho
 clear ho
 clear hq
 go_wp2_with fail
 refine (cenotaphref04_Union.calls k (fun _ => True) A_a c_a a A_b c_b b v1 w9 Ha.out (Kd.V_reads' Hb.out).2.2 (Kd.V_reads' Hb.out).2.1 g_v1.out).mono ?_
 rintro e w10 ⟨v, rfl, ho, hq⟩
 replace Ha := Aside0.mk (Kd.V_below Ha.out hq)
 replace Hb := Aside0.mk (Kd.V_below Hb.out hq)
 replace Hx := Aside0.mk (Kd.V_below Hx.out hq)
 replace Hy := Aside0.mk (Kd.V_below Hy.out hq)
 replace Hz := Aside0.mk (Kd.V_below Hz.out hq)
 replace Hu := Aside0.mk (Kd.V_below Hu.out hq)
 replace Hfu := Aside0.mk (Kd.V_below Hfu.out hq)
 replace HB := Aside0.mk (below_step HB.out hq)
 replace ho : Kd.V k27 27 w10 0 (fun _ => True) v v1 := Kd.V_mono ho (fun _ _ => trivial)
 obtain ⟨A_v1, c_v1, rfl⟩ := Kd.V_slice ho
 have Hv1 := Aside0.mk ho
 clear ho
 clear hq
 go_wp2_with fail
 refine (cenotaphref04_Same.calls k A_fu c_fu fu A_v1 c_v1 v1 true w10 (Kd.V_reads' Hfu.out).2.2 (Kd.V_reads' Hfu.out).2.1 (Kd.V_reads' Hv1.out).2.2 (Kd.V_reads' Hv1.out).2.1 d1.out).mono ?_
 rintro e w11 ⟨rfl, hq⟩
 replace Ha := Aside0.mk (Kd.V_below Ha.out hq)
 replace Hb := Aside0.mk (Kd.V_below Hb.out hq)
 replace Hx := Aside0.mk (Kd.V_below Hx.out hq)
 replace Hy := Aside0.mk (Kd.V_below Hy.out hq)
 replace Hz := Aside0.mk (Kd.V_below Hz.out hq)
 replace Hu := Aside0.mk (Kd.V_below Hu.out hq)
 replace Hfu := Aside0.mk (Kd.V_below Hfu.out hq)
 replace Hv1 := Aside0.mk (Kd.V_below Hv1.out hq)
 replace HB := Aside0.mk (below_step HB.out hq)
 clear hq
 clear Hfu
 clear Hv1
 go_wp2_with fail
 refine (know_Within.calls k A_x c_x x A_y c_y y i1 w11 (Kd.V_reads' Hx.out).2.2 (Kd.V_reads' Hx.out).2.1 (Kd.V_reads' Hy.out).2.2 (Kd.V_reads' Hy.out).2.1 g_i1.out).mono ?_
 rintro e w12 ⟨rfl, hq⟩
 replace Ha := Aside0.mk (Kd.V_below Ha.out hq)
 replace Hb := Aside0.mk (Kd.V_below Hb.out hq)
 replace Hx := Aside0.mk (Kd.V_below Hx.out hq)
 replace Hy := Aside0.mk (Kd.V_below Hy.out hq)
 replace Hz := Aside0.mk (Kd.V_below Hz.out hq)
 replace Hu := Aside0.mk (Kd.V_below Hu.out hq)
 replace HB := Aside0.mk (below_step HB.out hq)
 clear hq
 go_wp2_with fail
 refine (cenotaphref04_Within.calls k A_a c_a a A_b c_b b i1 w12 (Kd.V_reads' Ha.out).2.2 (Kd.V_reads' Ha.out).2.1 (Kd.V_reads' Hb.out).2.2 (Kd.V_reads' Hb.out).2.1 d2.out).mono ?_
 rintro e w13 ⟨rfl, hq⟩
 replace Ha := Aside0.mk (Kd.V_below Ha.out hq)
 replace Hb := Aside0.mk (Kd.V_below Hb.out hq)
 replace Hx := Aside0.mk (Kd.V_below Hx.out hq)
 replace Hy := Aside0.mk (Kd.V_below Hy.out hq)
 replace Hz := Aside0.mk (Kd.V_below Hz.out hq)
 replace Hu := Aside0.mk (Kd.V_below Hu.out hq)
 replace HB := Aside0.mk (below_step HB.out hq)
 clear hq
 go_wp2_with fail
 refine (know_Same.calls k A_x c_x x A_y c_y y sm w13 (Kd.V_reads' Hx.out).2.2 (Kd.V_reads' Hx.out).2.1 (Kd.V_reads' Hy.out).2.2 (Kd.V_reads' Hy.out).2.1 g_sm.out).mono ?_
 rintro e w14 ⟨rfl, hq⟩
 replace Ha := Aside0.mk (Kd.V_below Ha.out hq)
 replace Hb := Aside0.mk (Kd.V_below Hb.out hq)
 replace Hx := Aside0.mk (Kd.V_below Hx.out hq)
 replace Hy := Aside0.mk (Kd.V_below Hy.out hq)
 replace Hz := Aside0.mk (Kd.V_below Hz.out hq)
 replace Hu := Aside0.mk (Kd.V_below Hu.out hq)
 replace HB := Aside0.mk (below_step HB.out hq)
 clear hq
 go_wp2_with fail
 refine (cenotaphref04_Same.calls k A_a c_a a A_b c_b b sm w14 (Kd.V_reads' Ha.out).2.2 (Kd.V_reads' Ha.out).2.1 (Kd.V_reads' Hb.out).2.2 (Kd.V_reads' Hb.out).2.1 d3.out).mono ?_
 rintro e w15 ⟨rfl, hq⟩
 replace Ha := Aside0.mk (Kd.V_below Ha.out hq)
 replace Hb := Aside0.mk (Kd.V_below Hb.out hq)
 replace Hx := Aside0.mk (Kd.V_below Hx.out hq)
 replace Hy := Aside0.mk (Kd.V_below Hy.out hq)
 replace Hz := Aside0.mk (Kd.V_below Hz.out hq)
 replace Hu := Aside0.mk (Kd.V_below Hu.out hq)
 replace HB := Aside0.mk (below_step HB.out hq)
 clear hq
 clear Ha
 clear Hb
 go_wp2_with fail
 refine (know_Right.calls k A_u c_u u true w15 (Kd.V_reads' Hu.out).2.2 (Kd.V_reads' Hu.out).2.1 d4.out).mono ?_
 rintro e w16 ⟨rfl, hq⟩
 replace Hx := Aside0.mk (Kd.V_below Hx.out hq)
 replace Hy := Aside0.mk (Kd.V_below Hy.out hq)
 replace Hz := Aside0.mk (Kd.V_below Hz.out hq)
 replace Hu := Aside0.mk (Kd.V_below Hu.out hq)
 replace HB := Aside0.mk (below_step HB.out hq)
 clear hq
 go_wp2_with fail
 refine (know_Within.calls k A_x c_x x A_u c_u u true w16 (Kd.V_reads' Hx.out).2.2 (Kd.V_reads' Hx.out).2.1 (Kd.V_reads' Hu.out).2.2 (Kd.V_reads' Hu.out).2.1 d5.out).mono ?_
 rintro e w17 ⟨rfl, hq⟩
 replace Hx := Aside0.mk (Kd.V_below Hx.out hq)
 replace Hy := Aside0.mk (Kd.V_below Hy.out hq)
 replace Hz := Aside0.mk (Kd.V_below Hz.out hq)
 replace Hu := Aside0.mk (Kd.V_below Hu.out hq)
 replace HB := Aside0.mk (below_step HB.out hq)
 clear hq
 go_wp2_with fail
 refine (know_Within.calls k A_y c_y y A_u c_u u true w17 (Kd.V_reads' Hy.out).2.2 (Kd.V_reads' Hy.out).2.1 (Kd.V_reads' Hu.out).2.2 (Kd.V_reads' Hu.out).2.1 d6.out).mono ?_
 rintro e w18 ⟨rfl, hq⟩
 replace Hx := Aside0.mk (Kd.V_below Hx.out hq)
 replace Hy := Aside0.mk (Kd.V_below Hy.out hq)
 replace Hz := Aside0.mk (Kd.V_below Hz.out hq)
 replace Hu := Aside0.mk (Kd.V_below Hu.out hq)
 replace HB := Aside0.mk (below_step HB.out hq)
 clear hq
 go_wp2_with fail
 refine (know_Union.calls k A_y c_y y A_x c_x x u2 w18 (Kd.V_reads' Hy.out).2.2 (Kd.V_reads' Hy.out).2.1 (Kd.V_reads' Hx.out).2.2 (Kd.V_reads' Hx.out).2.1 g_u2.out).mono ?_
 rintro e w19 ⟨v, rfl, ho, hq⟩
 replace Hx := Aside0.mk (Kd.V_below Hx.out hq)
 replace Hy := Aside0.mk (Kd.V_below Hy.out hq)
 replace Hz := Aside0.mk (Kd.V_below Hz.out hq)
 replace Hu := Aside0.mk (Kd.V_below Hu.out hq)
 replace HB := Aside0.mk (below_step HB.out hq)
 replace ho : Kd.V k61 61 w19 0 (fun _ => True) v u2 := Kd.V_mono ho (fun _ _ => trivial)
 obtain ⟨A_u2, c_u2, rfl⟩ := Kd.V_slice ho
 have Hu2 := Aside0.mk ho
 clear ho
 clear hq
 go_wp2_with fail
 refine (know_Same.calls k A_u c_u u A_u2 c_u2 u2 true w19 (Kd.V_reads' Hu.out).2.2 (Kd.V_reads' Hu.out).2.1 (Kd.V_reads' Hu2.out).2.2 (Kd.V_reads' Hu2.out).2.1 d7.out).mono ?_
 rintro e w20 ⟨rfl, hq⟩
 replace Hx := Aside0.mk (Kd.V_below Hx.out hq)
 replace Hy := Aside0.mk (Kd.V_below Hy.out hq)
 replace Hz := Aside0.mk (Kd.V_below Hz.out hq)
 replace Hu := Aside0.mk (Kd.V_below Hu.out hq)
 replace Hu2 := Aside0.mk (Kd.V_below Hu2.out hq)
 replace HB := Aside0.mk (below_step HB.out hq)
 clear hq
 clear Hu2
 go_wp2_with fail
 refine (know_Within.calls k A_u c_u u A_z c_z z i5 w20 (Kd.V_reads' Hu.out).2.2 (Kd.V_reads' Hu.out).2.1 (Kd.V_reads' Hz.out).2.2 (Kd.V_reads' Hz.out).2.1 g_i5.out).mono ?_
 rintro e w21 ⟨rfl, hq⟩
 replace Hx := Aside0.mk (Kd.V_below Hx.out hq)
 replace Hy := Aside0.mk (Kd.V_below Hy.out hq)
 replace Hz := Aside0.mk (Kd.V_below Hz.out hq)
 replace Hu := Aside0.mk (Kd.V_below Hu.out hq)
 replace HB := Aside0.mk (below_step HB.out hq)
 clear hq
 go_wp2_with fail
 refine (know_Within.calls k A_x c_x x A_z c_z z i6 w21 (Kd.V_reads' Hx.out).2.2 (Kd.V_reads' Hx.out).2.1 (Kd.V_reads' Hz.out).2.2 (Kd.V_reads' Hz.out).2.1 g_i6.out).mono ?_
 rintro e w22 ⟨rfl, hq⟩
 replace Hx := Aside0.mk (Kd.V_below Hx.out hq)
 replace Hy := Aside0.mk (Kd.V_below Hy.out hq)
 replace Hz := Aside0.mk (Kd.V_below Hz.out hq)
 replace Hu := Aside0.mk (Kd.V_below Hu.out hq)
 replace HB := Aside0.mk (below_step HB.out hq)
 clear hq
 cases i6 with
 | true =>
  replace hsm : i5 = i7 := by rw [hsm]; rfl
  subst hsm
  have hee : (i5 == i5) = true := beq_self_eq_true i5
  go_wp2_with fail
  refine (know_Within.calls k A_y c_y y A_z c_z z i5 w22 (Kd.V_reads' Hy.out).2.2 (Kd.V_reads' Hy.out).2.1 (Kd.V_reads' Hz.out).2.2 (Kd.V_reads' Hz.out).2.1 g_i7.out).mono ?_
  rintro e w23 ⟨rfl, hq⟩
  replace Hx := Aside0.mk (Kd.V_below Hx.out hq)
  replace Hy := Aside0.mk (Kd.V_below Hy.out hq)
  replace Hz := Aside0.mk (Kd.V_below Hz.out hq)
  replace Hu := Aside0.mk (Kd.V_below Hu.out hq)
  replace HB := Aside0.mk (below_step HB.out hq)
  clear hq
  go_wp2_with fail
  all_goals (go_ret; exact ⟨rfl, HB.out⟩)
 | false =>
  replace hsm : i5 = false := by rw [hsm]; rfl
  subst hsm
  go_wp2_with fail
  all_goals (go_ret; exact ⟨rfl, HB.out⟩)

end Go.Proofs.Ytkfehkaiifjkmaa.P
