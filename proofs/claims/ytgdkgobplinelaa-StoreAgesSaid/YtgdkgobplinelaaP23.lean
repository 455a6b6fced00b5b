import Derived.Test.YtgdkgobplinelaaP0
import Derived.Test.YtgdkgobplinelaaP6
import Derived.Test.YtgdkgobplinelaaP7
import Derived.Test.YtgdkgobplinelaaP22
namespace Go.Proofs.Ytgdkgobplinelaa.P
open Go.RowKit Go.Proofs.YtgdkgobplinelaaW.PrintWords Go.Proofs.YtgdkgobplinelaaW.PrintLast Go.Proofs.YtgdkgobplinelaaW.PrintMore
set_option maxHeartbeats 8000000
set_option maxRecDepth 100000
attribute [local go_sem] run_store_complex max2_int min2_int max_two min_two max_three min_three max_four min_four
set_option linter.unusedVariables false
set_option linter.unusedSimpArgs false
theorem zq50_0 {p_ : Prop} (h_ : p_ := by repeat (first | (with_reducible first | exact HB.out | apply bA | apply pB | apply bW | refine below_set ?_ GE643.out | refine below_set ?_ GE644.out) | exact HB.out)) : p_ := h_
theorem zq50_1 {p_ : Prop} (h_ : p_ := by repeat (first | (with_reducible first | exact HB.out | apply bA | apply pB | apply bW | refine below_set ?_ GE643.out) | exact HB.out)) : p_ := h_
theorem zq50_2 {p_ : Prop} (h_ : p_ := by repeat (first | (with_reducible first | exact HB.out | apply bA | apply pB | apply bW) | exact HB.out)) : p_ := h_
theorem zq50_3 {p_ : Prop} (h_ : p_ := by (with_reducible repeat (first | refine blk_drewN ?_ _ | refine blk_drew ?_ | refine blk_alloc ?_ _)); exact BK643.out) : p_ := h_
theorem zq50_4 {p_ : Prop} (h_ : p_ := by (with_reducible repeat (first | refine blk_drewN ?_ _ | refine blk_drew ?_ | refine blk_alloc ?_ _)); exact BK644.out) : p_ := h_
def cenotaphref02_Fix.l0 : Nat → Int → Int → List Int → Int → List Int → Option (Int × List Int)
 | 0, _, _, _, _, _ => none
 | k + 1, x4, x644000, x644001, x646000, x646001 => if x4 < (x644001.length : Int) then (if x4 < 30 then (if 0 ≤ x4 then ((cenotaphref02_Add.f k x646000 x646001 (wrap64 (1 + (wrap64 (Int.tmod (IntKind.u64.wrap (rd x644001 x4)) 60))))).bind fun bt647 => (cenotaphref02_Fix.l0 k (wrap64 (x4 + 1)) x644000 x644001 bt647.1 bt647.2)) else (none)) else (some (x646000, x646001))) else (some (x646000, x646001))
def cenotaphref02_Fix.f (k : Nat) (a0_0 : Int) (l0_1 : List Int) : Option (Int × List Int) := cenotaphref02_Fix.l0 k 0 a0_0 l0_1 (wrap64 (Int.tmod (IntKind.u64.wrap (a0_0)) 40)) ([] : List Int)
theorem cenotaphref02_Fix.mono_l : ∀ k, (∀ y0 y1 y2 y3 y4, LeO (cenotaphref02_Fix.l0 k y0 y1 y2 y3 y4) (cenotaphref02_Fix.l0 (k + 1) y0 y1 y2 y3 y4))
 | 0 => fun _ _ _ _ _ r h => by simp [cenotaphref02_Fix.l0] at h
 | k + 1 => by
  have ih0 := cenotaphref02_Fix.mono_l k
  ·intro y0 y1 y2 y3 y4
   unfold cenotaphref02_Fix.l0
   repeat' first
   | (with_reducible exact ih0 _ _ _ _ _)
   | (with_reducible exact cenotaphref02_Add.mono _ _ _ _)
   | (with_reducible exact LeO.refl _)
   | (with_reducible exact LeO.none _)
   | (with_reducible refine LeO.ite ?_ ?_)
   | (with_reducible refine LeO.bind ?_ (fun _ => ?_))
   | exact ih0 _ _ _ _ _
   | exact cenotaphref02_Add.mono _ _ _ _
   | exact LeO.none _
   | refine LeO.ite ?_ ?_
   | refine LeO.bind ?_ (fun _ => ?_)
theorem cenotaphref02_Fix.mono : ∀ a0 a1 k, LeO (cenotaphref02_Fix.f k a0 a1) (cenotaphref02_Fix.f (k + 1) a0 a1) := by
 intro a0 a1 k
 have ih0 := cenotaphref02_Fix.mono_l k
 unfold cenotaphref02_Fix.f
 repeat' first
   | (with_reducible exact ih0 _ _ _ _ _)
   | (with_reducible exact cenotaphref02_Add.mono _ _ _ _)
   | (with_reducible exact LeO.refl _)
   | (with_reducible exact LeO.none _)
   | (with_reducible refine LeO.ite ?_ ?_)
   | (with_reducible refine LeO.bind ?_ (fun _ => ?_))
   | exact ih0 _ _ _ _ _
   | exact cenotaphref02_Add.mono _ _ _ _
   | exact LeO.none _
   | refine LeO.ite ?_ ?_
   | refine LeO.bind ?_ (fun _ => ?_)
def cenotaphref02_Fix.T5 : Bool × List (List Nat × List Nat) := (true, [([], []), ([], []), ([1], [1]), ([], []), ([2, 3], [2, 3]), ([4], [4]), ([5], [5]), ([6], [6]), ([7], [7]), ([8], [8]), ([0, 9], [0, 9]), ([10, 10, 0, 1, 2, 3, 4, 5, 6, 7, 8, 9, 10], [10])])
def cenotaphref02_Fix.B5 : List Nat := [0, 0, 2, 0, 14, 30, 62, 126, 254, 510, 1023, 2047]
theorem cenotaphref02_Fix.tab5 : rtab .any (opsOf Try.f50 5) = cenotaphref02_Fix.T5 := by kernel_rfl
theorem cenotaphref02_Fix.bits5 : waitsOk cenotaphref02_Fix.T5.2 cenotaphref02_Fix.B5 = true := by kernel_rfl
theorem cenotaphref02_Fix.calls (k : Nat) (a0_0 : Int) (A0_1 : Option Addr) (c0_1 : Nat) (l0_1 : List Int) (r1 : Int) (r2 : List Int) (w : World) (hr0_1 : Kd.C (Kd.int .i64) w A0_1 l0_1.length l0_1) (hc0_1 : l0_1.length ≤ c0_1) (h : cenotaphref02_Fix.f k a0_0 l0_1 = some (r1, r2)) :
  Calls Try.prog 50 #[.agg #[.int .i64 a0_0, .slice A0_1 l0_1.length c0_1]] w fun e w' => ∃ v1_ : Value, e = .returned (.agg #[.int .i64 r1, v1_]) ∧ Kd.R (Kd.int .i64) 3 w' w.heap.size (fun _ => True) v1_ r2 ∧ Below w.heap.size w w' := by
 have hu89 := Try.underlying89
 have HR0_1 := aK hr0_1
 have HC0_1 := aK hc0_1
 clear hr0_1 hc0_1
 have HB := aK (Below.refl w.heap.size w)
 have H : (cenotaphref02_Fix.l0 k 0 a0_0 l0_1 (wrap64 (Int.tmod (IntKind.u64.wrap (a0_0)) 40)) ([] : List Int)) = some (r1, r2) := h
 clear h
 have H' := aK H
 clear H
 go_enter Try.func50, Try.ntmps50
 go_wp2_with (first | ((with_reducible refine gate_dst (N := 1) rfl ?_); refine box_event ?hg (N := 1) ?hd (cs := #[.int .i64 a0_0, .slice A0_1 l0_1.length c0_1]) (t := 89) ?hr ?_; (case hd => rfl); (case hg => rfl); (case hr => first | (go_simp; done) | (go_simp; rfl)); intro gb643 hg w2 hbox hb; have BK643 := aK (hbox); have GW643 := aK (((by rw [hg]; exact (below_size zq50_2)) : w.heap.size ≤ gb643)); have GE643 := aK (((by rw [hg]; exact (below_size zq50_2)) : w.heap.size ≤ gb643)); replace HB := aK (bS zq50_2 hb); clear hb hbox hg) | ((with_reducible refine gate_dst (N := 2) rfl ?_); refine box_event ?hg (N := 2) ?hd (cs := #[.int .i64 0, .slice none 0 0]) (t := 89) ?hr ?_; (case hd => rfl); (case hg => rfl); (case hr => first | (go_simp; done) | (go_simp; rfl)); intro gb644 hg w3 hbox hb; have BK644 := aK (hbox); have GW644 := aK (((by rw [hg]; exact (below_size zq50_1)) : w.heap.size ≤ gb644)); have GE644 := aK (((by rw [hg]; exact (below_size zq50_1)) : w.heap.size ≤ gb644)); replace HB := aK (bS zq50_1 hb); have NB643_644 := aK (((by rw [hg]; exact Nat.ne_of_lt (blk_lt (g := gb643) (o := .cells #[.int .i64 a0_0, .slice A0_1 l0_1.length c0_1] 89 (0, 0)) zq50_3)) : gb643 ≠ gb644)); have NB644_643 := aK (((by rw [hg]; exact Nat.ne_of_gt (blk_lt (g := gb643) (o := .cells #[.int .i64 a0_0, .slice A0_1 l0_1.length c0_1] 89 (0, 0)) zq50_3)) : gb644 ≠ gb643)); replace BK643 := aK (bB (g := gb643) (o := .cells #[.int .i64 a0_0, .slice A0_1 l0_1.length c0_1] 89 (0, 0)) zq50_3 hb); clear hb hbox hg; have hnb4 := NB643_644.out; have hnc4 := NB644_643.out; have hcz5_0 : w3.cell? ⟨gb643, 0, none⟩ = some (.int .i64 a0_0) := (bC BK643.out 0).trans rfl; have hcz5_1 : w3.cell? ⟨gb643, 1, none⟩ = some (.slice A0_1 l0_1.length c0_1) := (bC BK643.out 1).trans rfl; have hfz5_0 := bF_ BK643.out 0; have hfz5_1 := bF_ BK643.out 1) | ((with_reducible refine gate_dst (N := 3) rfl ?_); refine box_event ?hg (N := 3) ?hd (cs := #[.int .i64 0, .slice none 0 0]) (t := 89) ?hr ?_; (case hd => rfl); (case hg => rfl); (case hr => first | (go_simp; done) | (go_simp; rfl)); intro gb645 hg w6 hbox hb; have BK645 := aK (hbox); have GW645 := aK (((by rw [hg]; exact (below_size zq50_0)) : w.heap.size ≤ gb645)); have GE645 := aK (((by rw [hg]; exact (below_size zq50_0)) : w.heap.size ≤ gb645)); replace HB := aK (bS zq50_0 hb); have NB643_645 := aK (((by rw [hg]; exact Nat.ne_of_lt (blk_lt (g := gb643) (o := .cells #[.int .i64 a0_0, .slice A0_1 l0_1.length c0_1] 89 (0, 0)) zq50_3)) : gb643 ≠ gb645)); have NB645_643 := aK (((by rw [hg]; exact Nat.ne_of_gt (blk_lt (g := gb643) (o := .cells #[.int .i64 a0_0, .slice A0_1 l0_1.length c0_1] 89 (0, 0)) zq50_3)) : gb645 ≠ gb643)); replace BK643 := aK (bB (g := gb643) (o := .cells #[.int .i64 a0_0, .slice A0_1 l0_1.length c0_1] 89 (0, 0)) zq50_3 hb); have NB644_645 := aK (((by rw [hg]; exact Nat.ne_of_lt (blk_lt (g := gb644) (o := .cells #[.int .i64 0, .slice none 0 0] 89 (0, 0)) zq50_4)) : gb644 ≠ gb645)); have NB645_644 := aK (((by rw [hg]; exact Nat.ne_of_gt (blk_lt (g := gb644) (o := .cells #[.int .i64 0, .slice none 0 0] 89 (0, 0)) zq50_4)) : gb645 ≠ gb644)); replace BK644 := aK (bB (g := gb644) (o := .cells #[.int .i64 0, .slice none 0 0] 89 (0, 0)) zq50_4 hb); clear hb hbox hg; have hnb7 := NB645_643.out; have hnc7 := NB643_645.out; have hnb8 := NB645_644.out; have hnc8 := NB644_645.out; have hcz9_0 : w6.cell? ⟨gb645, 0, none⟩ = some (.int .i64 0) := (bC BK645.out 0).trans rfl; have hcz9_1 : w6.cell? ⟨gb645, 1, none⟩ = some (.slice none 0 0) := (bC BK645.out 1).trans rfl; have hfz9_0 := bF_ BK645.out 0; have hfz9_1 := bF_ BK645.out 1))
 go_loopg [4] k (fun kq v4 w' => ∃ (x4_1 : Int) (x646000_1 : Int) (x646001_1 : List Int) (u646001 : Value), v4 = .int .i64 x4_1 ∧ Aside0 (cenotaphref02_Fix.l0 kq x4_1 a0_0 l0_1 x646000_1 x646001_1 = some (r1, r2)) ∧ Aside0 (kq ≤ k) ∧ Aside0 (Kd.R (Kd.int .i64) 3 w' w.heap.size (fun _ => True) u646001 x646001_1) ∧ Aside0 (w'.heap[gb643]? = some (.cells #[.int .i64 a0_0, (.slice A0_1 l0_1.length c0_1)] 89 (0, 0))) ∧ Aside0 (w'.heap[gb644]? = some (.cells #[.int .i64 0, (.slice none 0 0)] 89 (0, 0))) ∧ Aside0 (w'.heap[gb645]? = some (.cells #[.int .i64 x646000_1, u646001] 89 (0, 0))) ∧ Aside0 (Below w.heap.size w w'))
 case atStart => exact ⟨(0), (wrap64 (Int.tmod (IntKind.u64.wrap (a0_0)) 40)), (([] : List Int)), (.slice none 0 0), (by first | rfl | (simp; done) | (simp [*]; done)), H', ⟨Nat.le_refl _⟩, ⟨by first | exact Kd.R_nil _ _ _ _ _ | exact Kd.N_nil _ _ _ _ _ | exact Kd.V_nil _ _ _ _ _ | exact Kd.Q_nil _ _ _ _ _ | exact Kd.S_nil _ _ _ _ _⟩, ⟨by (with_reducible repeat (first | refine blk_drewN ?_ _ | refine blk_drew ?_ | refine blk_alloc ?_ _)); refine blk_far ?_ NB643_645.out _; (with_reducible repeat (first | refine blk_drewN ?_ _ | refine blk_drew ?_ | refine blk_alloc ?_ _)); refine blk_far ?_ NB643_645.out _; (with_reducible repeat (first | refine blk_drewN ?_ _ | refine blk_drew ?_ | refine blk_alloc ?_ _)); exact BK643.out⟩, ⟨by (with_reducible repeat (first | refine blk_drewN ?_ _ | refine blk_drew ?_ | refine blk_alloc ?_ _)); refine blk_far ?_ NB644_645.out _; (with_reducible repeat (first | refine blk_drewN ?_ _ | refine blk_drew ?_ | refine blk_alloc ?_ _)); refine blk_far ?_ NB644_645.out _; (with_reducible repeat (first | refine blk_drewN ?_ _ | refine blk_drew ?_ | refine blk_alloc ?_ _)); exact BK644.out⟩, ⟨by (with_reducible repeat (first | refine blk_drewN ?_ _ | refine blk_drew ?_ | refine blk_alloc ?_ _)); refine blk_put (cs := #[.int .i64 (wrap64 (Int.tmod (IntKind.u64.wrap (a0_0)) 40)), .slice none 0 0]) ?_ 1 _ rfl; (with_reducible repeat (first | refine blk_drewN ?_ _ | refine blk_drew ?_ | refine blk_alloc ?_ _)); refine blk_put (cs := #[.int .i64 0, .slice none 0 0]) ?_ 0 _ rfl; (with_reducible repeat (first | refine blk_drewN ?_ _ | refine blk_drew ?_ | refine blk_alloc ?_ _)); exact BK645.out⟩, ⟨by repeat (first | (with_reducible first | exact HB.out | apply bA | apply pB | apply bW | refine below_set ?_ GE643.out | refine below_set ?_ GE644.out | refine below_set ?_ GE645.out) | exact HB.out)⟩⟩
 case round =>
  clear H'
  try clear p2
  try clear c4
  try clear c5
  try clear p6
  try clear c7
  try clear c8
  try clear hcz5_0
  try clear hcz5_1
  try clear hcz9_0
  try clear hcz9_1
  try clear hfz5_0
  try clear hfz5_1
  try clear hfz9_0
  try clear hfz9_1
  obtain ⟨x4_1, x646000_1, x646001_1, u646001, rfl, HA, HK1, HO_646001, BK643, BK644, BK645, HB⟩ := hrel
  cases gk with
  | zero => exact absurd HA.out (by simp [cenotaphref02_Fix.l0])
  | succ k1 =>
   have H := HA.out
   clear HA
   simp only [cenotaphref02_Fix.l0] at H
   by_cases c10 : x4_1 < (l0_1.length : Int)
   ·rw [if_pos c10] at H
    have c10b0 : decide (x4_1 < (l0_1.length : Int)) = true := dT c10
    clear c10
    by_cases c11 : x4_1 < 30
    ·rw [if_pos c11] at H
     have c11b0 : decide (x4_1 < 30) = true := dT c11
     clear c11
     by_cases c12 : 0 ≤ x4_1
     ·rw [if_pos c12] at H
      have c12b0 : decide (0 ≤ x4_1) = true := dT c12
      clear c12
      replace H := bM H
      obtain ⟨⟨t647, t648⟩, A130, H⟩ := H
      replace H : (cenotaphref02_Fix.l0 k1 (wrap64 (x4_1 + 1)) a0_0 l0_1 t647 t648) = some (r1, r2) := H
      have A13 := aK A130
      clear A130
      have H' := aK H
      clear H
      have hnb14 := NB643_644.out
      have hnc14 := NB644_643.out
      have hnb15 := NB643_645.out
      have hnc15 := NB645_643.out
      have hcz16_0 : wr.cell? ⟨gb643, 0, none⟩ = some (.int .i64 a0_0) := (bC BK643.out 0).trans rfl
      have hcz16_1 : wr.cell? ⟨gb643, 1, none⟩ = some (.slice A0_1 l0_1.length c0_1) := (bC BK643.out 1).trans rfl
      have hfz16_0 := bF_ BK643.out 0
      have hfz16_1 := bF_ BK643.out 1
      try go_wp2
      replace HO_646001 := aK (Kd.R_drew HO_646001.out)
      replace BK643 := aK (blk_drew BK643.out)
      replace BK644 := aK (blk_drew BK644.out)
      replace BK645 := aK (blk_drew BK645.out)
      replace HB := aK (bW HB.out)
      have p646 : 0 ≤ (x4_1 : Int) := oD (by first | (with_reducible assumption) | assumption)
      have q646 : x4_1 < (l0_1.length : Int) := oD (by first | (with_reducible assumption) | assumption)
      obtain ⟨ad646, e646, hx646_0⟩ := Kd.at_int HR0_1.out x4_1 p646 q646
      have hw646_0 := hx646_0
      cases e646
      replace hx646_0 := pc_ HB hx646_0
      replace p646 := eT p646
      replace q646 := eT q646
      obtain ⟨Ao18, co18, eo18⟩ := Kd.R_slice HO_646001.out
      (first | subst eo18 | (injection eo18 with f1_ f2_ f3_; have f4_ := f1_.symm; have f5_ := f3_.symm; clear f1_ f2_ f3_; subst f4_; subst f5_))
      refine start_ (n := 12) (S := fun w' => w'.cell? ⟨gb645, 0, none⟩ = some (.int .i64 x646000_1) ∧ w'.cell? ⟨gb645, 1, none⟩ = some (.slice Ao18 x646001_1.length co18) ∧ w'.cell? ⟨gb643, 0, none⟩ = some (.int .i64 a0_0) ∧ w'.cell? ⟨gb643, 1, none⟩ = some (.slice (some ad646) l0_1.length c0_1) ∧ w'.cell? (ad646.add (x4_1).toNat) = some (.int .i64 (rd l0_1 x4_1))) (ds := [11]) #[false, false, false, false, false, false, false, false, false, false, false, false] (by kernel_rfl) rfl rfl ⟨(bC BK645.out 0).trans rfl, (bC BK645.out 1).trans rfl, (bC BK643.out 0).trans rfl, (bC BK643.out 1).trans rfl, (pc_ HB hw646_0)⟩ (fun hHeld => ?_); refine with_tabW cenotaphref02_Fix.tab5 cenotaphref02_Fix.bits5 (fun HT_ HW_ => ?_)
      generalize wr.drew = w17 at HO_646001 BK643 BK644 BK645 HB hx646_0 hHeld ⊢
      refine p_ 1 23 (mk_ 12 0x2) ?_
      refine p_ 3 25 (mk_ 12 0xa) ?_
      refine t_ 0 22 (mk_ 12 0xb) hHeld ?_
      refine t_ 2 24 (mk_ 12 0xf) hHeld ?_
      refine p_ 4 26 (mk_ 12 0x1f) ?_
      refine t_ 5 27 (mk_ 12 0x3f) hHeld ?_
      refine p_ 6 28 (mk_ 12 0x7f) ?_
      refine p_ 7 29 (mk_ 12 0xff) ?_
      refine p_ 8 30 (mk_ 12 0x1ff) ?_
      refine p_ 9 31 (mk_ 12 0x3ff) ?_
      refine one_ (i := 10) (N := some 32) #[true, true, true, true, true, true, true, true, true, true, true, false] rfl rfl (one_of HT_.out (by kernel_rfl)) (by decide) (fun K hK => ?_)
      refine goes_ Try.func70 (by kernel_rfl) rfl #[.agg #[.int .i64 x646000_1, .slice Ao18 x646001_1.length co18], .int .i64 (wrap64 (1 + (wrap64 (Int.tmod (IntKind.u64.wrap (rd l0_1 x4_1)) 60))))] (by rfl) rfl rfl (by (try simp only [List.map_toArray, List.map_cons, List.map_nil]); first | done | rfl | (simp only [List.length_drop, List.length_take]; rfl)) ?_
      with_reducible refine (cenotaphref02_Add.calls k1 x646000_1 _ _ x646001_1 (wrap64 (1 + (wrap64 (Int.tmod (IntKind.u64.wrap (rd l0_1 x4_1)) 60)))) t647 t648 _ ?side1 ?side2 A13.out).mono ?_
      (case side1 => repeat (first | exact (Kd.R_reads' HO_646001.out).2.2 | (with_reducible refine Kd.C_alloc ?_ _) | (with_reducible refine Kd.C_drewN ?_ _) | (with_reducible refine Kd.C_drew ?_)))
      (case side2 => exact (Kd.R_reads' HO_646001.out).2.1)
      rintro e w19 ⟨v649, rfl, ho0, hb⟩
      refine ⟨_, rfl, ?_⟩
      have HO650 := aK (Kd.R_lower (Kd.R_new' ho0 (Kd.R_lt (by (with_reducible repeat (first | apply Kd.R_alloc | apply Kd.R_drewN | apply Kd.R_drew)); exact HO_646001.out))) (below_size (by repeat (first | (with_reducible first | exact HB.out | apply bA | apply pB | apply bW | refine below_set ?_ GE643.out | refine below_set ?_ GE644.out | refine below_set ?_ GE645.out) | exact HB.out))))
      replace HO_646001 := aK (Kd.R_elder' (by (with_reducible repeat (first | apply Kd.R_alloc | apply Kd.R_drewN | apply Kd.R_drew)); exact HO_646001.out) (Kd.R_base ho0) hb)
      replace BK643 := aK (bB (g := gb643) (o := .cells #[.int .i64 a0_0, .slice (some ad646) l0_1.length c0_1] 89 (0, 0)) zq50_3 hb)
      replace BK644 := aK (bB (g := gb644) (o := .cells #[.int .i64 0, .slice none 0 0] 89 (0, 0)) zq50_4 hb)
      replace BK645 := aK (bB (g := gb645) (o := .cells #[.int .i64 x646000_1, .slice Ao18 x646001_1.length co18] 89 (0, 0)) (by (with_reducible repeat (first | refine blk_drewN ?_ _ | refine blk_drew ?_ | refine blk_alloc ?_ _)); exact BK645.out) hb)
      replace HB := aK (bS (by repeat (first | (with_reducible first | exact HB.out | apply bA | apply pB | apply bW | refine below_set ?_ GE643.out | refine below_set ?_ GE644.out | refine below_set ?_ GE645.out) | exact HB.out)) hb)
      (try clear hb)
      (try clear hb2)
      (try clear hk)
      (try clear hi)
      (try clear ho0)
      obtain ⟨Ao21, co21, eo21⟩ := Kd.R_slice HO650.out
      (first | subst eo21 | (injection eo21 with f1_ f2_ f3_; have f4_ := f1_.symm; have f5_ := f3_.symm; clear f1_ f2_ f3_; subst f4_; subst f5_))
      refine hK.out _ _ ⟨(bC BK645.out 0).trans rfl, (bC BK645.out 1).trans rfl, (bC BK643.out 0).trans rfl, (bC BK643.out 1).trans rfl, (pc_ HB hw646_0)⟩ (fun hHeld => ?_)
      clear hK K
      refine norm_ (a' := ?_) ?_ ?_
      rotate_left
      ·show Act.put _ (some 32) _ = _
       simp only [Act.put, lA, lB, lC, i64_w, i32_w]
       rfl
      refine last_ (i := 11) (N := none) #[true, true, true, true, true, true, true, true, true, true, true, true] rfl rfl (one_of HT_.out (by kernel_rfl)) (by decide) (fun K hK => ?_)
      have hs20 : w19.cell? ⟨gb645, 0, none⟩ = some (.int .i64 x646000_1) := (bC BK645.out 0).trans rfl
      have hfs20 := bF_ BK645.out 0
      have hns20_0 := NB643_645.out
      have hns20_1 := NB644_645.out
      have hms20_0 := NB645_643.out
      have hms20_1 := NB645_644.out
      have hs22 : w19.cell? ⟨gb645, 1, none⟩ = some (.slice Ao18 x646001_1.length co18) := (bC BK645.out 1).trans rfl
      have hfs22 := bF_ BK645.out 1
      have hns22_0 := NB643_645.out
      have hns22_1 := NB644_645.out
      have hms22_0 := NB645_643.out
      have hms22_1 := NB645_644.out
      refine skip_ (w1 := ?_) (by rfl) rfl ?_ ?_
      rotate_left
      ·go_simp
       rfl
      refine hK.out _ _ ?_
      clear hK K
      refine done_ (done_of HT_.out (by kernel_rfl)) ?_
      try go_wp2
      go_roundg k1
      case measure => have := HK1.out; omega
      case rel => exact ⟨(wrap64 (x4_1 + 1)), (t647), (t648), (.slice Ao21 t648.length co21), (by first | rfl | (simp; done) | (simp [*]; done)), H', ⟨by have := HK1.out; omega⟩, ⟨by (with_reducible repeat (first | apply Kd.R_alloc | apply Kd.R_drewN | apply Kd.R_drew)); exact Kd.R_mono (Kd.R_far (p := ⟨gb645, 1, none⟩) (Kd.R_far (p := ⟨gb645, 0, none⟩) (Kd.R_types HO650.out BK645.out (by decide)) (fun _ hk => hk.2) (.int .i64 t647)) (fun _ hk => hk.2) (.slice Ao21 t648.length co21)) (fun _ hk => trivial)⟩, ⟨by (with_reducible repeat (first | refine blk_drewN ?_ _ | refine blk_drew ?_ | refine blk_alloc ?_ _)); refine blk_far ?_ NB643_645.out _; (with_reducible repeat (first | refine blk_drewN ?_ _ | refine blk_drew ?_ | refine blk_alloc ?_ _)); refine blk_far ?_ NB643_645.out _; (with_reducible repeat (first | refine blk_drewN ?_ _ | refine blk_drew ?_ | refine blk_alloc ?_ _)); exact BK643.out⟩, ⟨by (with_reducible repeat (first | refine blk_drewN ?_ _ | refine blk_drew ?_ | refine blk_alloc ?_ _)); refine blk_far ?_ NB644_645.out _; (with_reducible repeat (first | refine blk_drewN ?_ _ | refine blk_drew ?_ | refine blk_alloc ?_ _)); refine blk_far ?_ NB644_645.out _; (with_reducible repeat (first | refine blk_drewN ?_ _ | refine blk_drew ?_ | refine blk_alloc ?_ _)); exact BK644.out⟩, ⟨by (with_reducible repeat (first | refine blk_drewN ?_ _ | refine blk_drew ?_ | refine blk_alloc ?_ _)); refine blk_put (cs := #[.int .i64 t647, .slice Ao18 x646001_1.length co18]) ?_ 1 _ rfl; (with_reducible repeat (first | refine blk_drewN ?_ _ | refine blk_drew ?_ | refine blk_alloc ?_ _)); refine blk_put (cs := #[.int .i64 x646000_1, .slice Ao18 x646001_1.length co18]) ?_ 0 _ rfl; (with_reducible repeat (first | refine blk_drewN ?_ _ | refine blk_drew ?_ | refine blk_alloc ?_ _)); exact BK645.out⟩, ⟨by repeat (first | (with_reducible first | exact HB.out | apply bA | apply pB | apply bW | refine below_set ?_ GE643.out | refine below_set ?_ GE644.out | refine below_set ?_ GE645.out) | exact HB.out)⟩⟩
     ·rw [if_neg c12] at H
      exact absurd H (by simp)
    ·rw [if_neg c11] at H
     have c11b0 : decide (x4_1 < 30) = false := decide_eq_false c11
     clear c11
     simp only [Option.some.injEq, Prod.mk.injEq] at H
     obtain ⟨rfl, rfl⟩ := H
     have hnb23 := NB643_644.out
     have hnc23 := NB644_643.out
     have hnb24 := NB643_645.out
     have hnc24 := NB645_643.out
     have hcz25_0 : wr.cell? ⟨gb643, 0, none⟩ = some (.int .i64 a0_0) := (bC BK643.out 0).trans rfl
     have hcz25_1 : wr.cell? ⟨gb643, 1, none⟩ = some (.slice A0_1 l0_1.length c0_1) := (bC BK643.out 1).trans rfl
     have hfz25_0 := bF_ BK643.out 0
     have hfz25_1 := bF_ BK643.out 1
     have hnb26 := NB645_644.out
     have hnc26 := NB644_645.out
     have hcz27_0 : wr.cell? ⟨gb645, 0, none⟩ = some (.int .i64 x646000_1) := (bC BK645.out 0).trans rfl
     have hcz27_1 : wr.cell? ⟨gb645, 1, none⟩ = some (u646001) := (bC BK645.out 1).trans rfl
     have hfz27_0 := bF_ BK645.out 0
     have hfz27_1 := bF_ BK645.out 1
     have hcz28_0 : wr.cell? ⟨gb644, 0, none⟩ = some (.int .i64 0) := (bC BK644.out 0).trans rfl
     have hcz28_1 : wr.cell? ⟨gb644, 1, none⟩ = some (.slice none 0 0) := (bC BK644.out 1).trans rfl
     have hfz28_0 := bF_ BK644.out 0
     have hfz28_1 := bF_ BK644.out 1
     obtain ⟨Ao29, co29, eo29⟩ := Kd.R_slice HO_646001.out
     subst eo29
     go_wp2
     refine bodyPost_ret (results_cell_row rfl _ _ gb644 89 #[.int .i64 x646000_1, .slice Ao29 x646001_1.length co29] (0, 0) _ rfl (by (with_reducible repeat (first | refine blk_drewN ?_ _ | refine blk_drew ?_ | refine blk_alloc ?_ _)); refine blk_put (cs := #[.int .i64 x646000_1, .slice none 0 0]) ?_ 1 _ rfl; (with_reducible repeat (first | refine blk_drewN ?_ _ | refine blk_drew ?_ | refine blk_alloc ?_ _)); refine blk_put (cs := #[.int .i64 0, .slice none 0 0]) ?_ 0 _ rfl; (with_reducible repeat (first | refine blk_drewN ?_ _ | refine blk_drew ?_ | refine blk_alloc ?_ _)); exact BK644.out) Try.underlying89 rfl (by kernel_rfl)) rfl ?_
     exact ⟨_, by first | rfl | (simp [errW_none, errW_some] <;> rfl) | (simp [*, errW_none, errW_some] <;> rfl), by (with_reducible repeat (first | apply Kd.R_alloc | apply Kd.R_drewN | apply Kd.R_drew)); exact Kd.R_mono (Kd.R_far (p := ⟨gb644, 1, none⟩) (Kd.R_far (p := ⟨gb644, 0, none⟩) (Kd.R_types HO_646001.out BK644.out (by decide)) (fun _ hk => hk.2) (.int .i64 x646000_1)) (fun _ hk => hk.2) (.slice Ao29 x646001_1.length co29)) (fun _ hk => trivial), by repeat (first | (with_reducible first | exact HB.out | apply bA | apply pB | apply bW | refine below_set ?_ GE643.out | refine below_set ?_ GE644.out | refine below_set ?_ GE645.out) | exact HB.out)⟩
   ·rw [if_neg c10] at H
    have c10b0 : decide (x4_1 < (l0_1.length : Int)) = false := decide_eq_false c10
    clear c10
    simp only [Option.some.injEq, Prod.mk.injEq] at H
    obtain ⟨rfl, rfl⟩ := H
    have hnb30 := NB643_644.out
    have hnc30 := NB644_643.out
    have hnb31 := NB643_645.out
    have hnc31 := NB645_643.out
    have hcz32_0 : wr.cell? ⟨gb643, 0, none⟩ = some (.int .i64 a0_0) := (bC BK643.out 0).trans rfl
    have hcz32_1 : wr.cell? ⟨gb643, 1, none⟩ = some (.slice A0_1 l0_1.length c0_1) := (bC BK643.out 1).trans rfl
    have hfz32_0 := bF_ BK643.out 0
    have hfz32_1 := bF_ BK643.out 1
    have hnb33 := NB645_644.out
    have hnc33 := NB644_645.out
    have hcz34_0 : wr.cell? ⟨gb645, 0, none⟩ = some (.int .i64 x646000_1) := (bC BK645.out 0).trans rfl
    have hcz34_1 : wr.cell? ⟨gb645, 1, none⟩ = some (u646001) := (bC BK645.out 1).trans rfl
    have hfz34_0 := bF_ BK645.out 0
    have hfz34_1 := bF_ BK645.out 1
    have hcz35_0 : wr.cell? ⟨gb644, 0, none⟩ = some (.int .i64 0) := (bC BK644.out 0).trans rfl
    have hcz35_1 : wr.cell? ⟨gb644, 1, none⟩ = some (.slice none 0 0) := (bC BK644.out 1).trans rfl
    have hfz35_0 := bF_ BK644.out 0
    have hfz35_1 := bF_ BK644.out 1
    obtain ⟨Ao36, co36, eo36⟩ := Kd.R_slice HO_646001.out
    subst eo36
    go_wp2
    refine bodyPost_ret (results_cell_row rfl _ _ gb644 89 #[.int .i64 x646000_1, .slice Ao36 x646001_1.length co36] (0, 0) _ rfl (by (with_reducible repeat (first | refine blk_drewN ?_ _ | refine blk_drew ?_ | refine blk_alloc ?_ _)); refine blk_put (cs := #[.int .i64 x646000_1, .slice none 0 0]) ?_ 1 _ rfl; (with_reducible repeat (first | refine blk_drewN ?_ _ | refine blk_drew ?_ | refine blk_alloc ?_ _)); refine blk_put (cs := #[.int .i64 0, .slice none 0 0]) ?_ 0 _ rfl; (with_reducible repeat (first | refine blk_drewN ?_ _ | refine blk_drew ?_ | refine blk_alloc ?_ _)); exact BK644.out) Try.underlying89 rfl (by kernel_rfl)) rfl ?_
    exact ⟨_, by first | rfl | (simp [errW_none, errW_some] <;> rfl) | (simp [*, errW_none, errW_some] <;> rfl), by (with_reducible repeat (first | apply Kd.R_alloc | apply Kd.R_drewN | apply Kd.R_drew)); exact Kd.R_mono (Kd.R_far (p := ⟨gb644, 1, none⟩) (Kd.R_far (p := ⟨gb644, 0, none⟩) (Kd.R_types HO_646001.out BK644.out (by decide)) (fun _ hk => hk.2) (.int .i64 x646000_1)) (fun _ hk => hk.2) (.slice Ao36 x646001_1.length co36)) (fun _ hk => trivial), by repeat (first | (with_reducible first | exact HB.out | apply bA | apply pB | apply bW | refine below_set ?_ GE643.out | refine below_set ?_ GE644.out | refine below_set ?_ GE645.out) | exact HB.out)⟩
theorem zq27_0 {p_ : Prop} (h_ : p_ := by (try simp only [List.map_toArray, List.map_cons, List.map_nil]); first | done | rfl | (simp only [List.length_drop, List.length_take]; rfl)) : p_ := h_
theorem zq27_1 {p_ : Prop} (h_ : p_ := by repeat (first | (with_reducible first | exact HB.out | apply bA | apply pB | apply bW) | exact HB.out)) : p_ := h_
theorem zq27_2 {p_ : Prop} (h_ : p_ := by first | (with_reducible assumption) | assumption) : p_ := h_
theorem zq27_3 {p_ : Prop} (h_ : p_ := by first | rfl | (simp; done) | (simp [*]; done)) : p_ := h_
mutual
def cenotaphref04_Fix.l0 : Nat → List (S91) → List (S91) → Int → Option ((List (S91)))
 | 0, _, _, _ => none
 | k + 1, x0, x3, x4 => if x4 < (x0.length : Int) then (cenotaphref04_Fix.j1 k x0 x3 x4 (decide (x4 < 10))) else (cenotaphref04_Fix.j1 k x0 x3 x4 false)
def cenotaphref04_Fix.j1 : Nat → List (S91) → List (S91) → Int → Bool → Option ((List (S91)))
 | 0, _, _, _, _ => none
 | k + 1, x0, x3, x4, x12 => if x12 = true then (if 0 ≤ x4 then (if x4 < (x0.length : Int) then ((cenotaphref01_Fix.f k ((rd_T91 x0 x4).f0)).bind fun t652 => ((cenotaphref02_Fix.f k ((rd_T91 x0 x4).f1.f0) ((rd_T91 x0 x4).f1.f1)).bind fun bt654 => ((cenotaphref04_put.f k x3 t652 bt654.1 bt654.2).bind fun t658 => (cenotaphref04_Fix.l0 k x0 t658 (wrap64 (x4 + 1)))))) else (none)) else (none)) else (some x3)
end
def cenotaphref04_Fix.f (k : Nat) (l0 : List (S91)) : Option ((List (S91))) := cenotaphref04_Fix.l0 k l0 ([] : List (S91)) 0
theorem cenotaphref04_Fix.mono_l : ∀ k, (∀ y0 y1 y2, LeO (cenotaphref04_Fix.l0 k y0 y1 y2) (cenotaphref04_Fix.l0 (k + 1) y0 y1 y2)) ∧ (∀ y0 y1 y2 y3, LeO (cenotaphref04_Fix.j1 k y0 y1 y2 y3) (cenotaphref04_Fix.j1 (k + 1) y0 y1 y2 y3))
 | 0 => ⟨fun _ _ _ r h => by simp [cenotaphref04_Fix.l0] at h, fun _ _ _ _ r h => by simp [cenotaphref04_Fix.j1] at h⟩
 | k + 1 => by
  obtain ⟨ih0, ih1⟩ := cenotaphref04_Fix.mono_l k
  refine ⟨?_, ?_⟩
  ·intro y0 y1 y2
   unfold cenotaphref04_Fix.l0
   repeat' first
   | (with_reducible exact ih0 _ _ _)
   | (with_reducible exact ih1 _ _ _ _)
   | (with_reducible exact cenotaphref01_Fix.mono _ _)
   | (with_reducible exact cenotaphref02_Fix.mono _ _ _)
   | (with_reducible exact cenotaphref04_put.mono _ _ _ _ _)
   | (with_reducible exact LeO.refl _)
   | (with_reducible exact LeO.none _)
   | (with_reducible refine LeO.ite ?_ ?_)
   | (with_reducible refine LeO.bind ?_ (fun _ => ?_))
   | exact ih0 _ _ _
   | exact ih1 _ _ _ _
   | exact cenotaphref01_Fix.mono _ _
   | exact cenotaphref02_Fix.mono _ _ _
   | exact cenotaphref04_put.mono _ _ _ _ _
   | exact LeO.none _
   | refine LeO.ite ?_ ?_
   | refine LeO.bind ?_ (fun _ => ?_)
  ·intro y0 y1 y2 y3
   unfold cenotaphref04_Fix.j1
   repeat' first
   | (with_reducible exact ih0 _ _ _)
   | (with_reducible exact ih1 _ _ _ _)
   | (with_reducible exact cenotaphref01_Fix.mono _ _)
   | (with_reducible exact cenotaphref02_Fix.mono _ _ _)
   | (with_reducible exact cenotaphref04_put.mono _ _ _ _ _)
   | (with_reducible exact LeO.refl _)
   | (with_reducible exact LeO.none _)
   | (with_reducible refine LeO.ite ?_ ?_)
   | (with_reducible refine LeO.bind ?_ (fun _ => ?_))
   | exact ih0 _ _ _
   | exact ih1 _ _ _ _
   | exact cenotaphref01_Fix.mono _ _
   | exact cenotaphref02_Fix.mono _ _ _
   | exact cenotaphref04_put.mono _ _ _ _ _
   | exact LeO.none _
   | refine LeO.ite ?_ ?_
   | refine LeO.bind ?_ (fun _ => ?_)
theorem cenotaphref04_Fix.mono : ∀ a0 k, LeO (cenotaphref04_Fix.f k a0) (cenotaphref04_Fix.f (k + 1) a0) := by
 intro a0 k
 obtain ⟨ih0, ih1⟩ := cenotaphref04_Fix.mono_l k
 unfold cenotaphref04_Fix.f
 repeat' first
   | (with_reducible exact ih0 _ _ _)
   | (with_reducible exact ih1 _ _ _ _)
   | (with_reducible exact cenotaphref01_Fix.mono _ _)
   | (with_reducible exact cenotaphref02_Fix.mono _ _ _)
   | (with_reducible exact cenotaphref04_put.mono _ _ _ _ _)
   | (with_reducible exact LeO.refl _)
   | (with_reducible exact LeO.none _)
   | (with_reducible refine LeO.ite ?_ ?_)
   | (with_reducible refine LeO.bind ?_ (fun _ => ?_))
   | exact ih0 _ _ _
   | exact ih1 _ _ _ _
   | exact cenotaphref01_Fix.mono _ _
   | exact cenotaphref02_Fix.mono _ _ _
   | exact cenotaphref04_put.mono _ _ _ _ _
   | exact LeO.none _
   | refine LeO.ite ?_ ?_
   | refine LeO.bind ?_ (fun _ => ?_)
def cenotaphref04_Fix.T5 : Bool × List (List Nat × List Nat) := (true, [([], []), ([], []), ([], []), ([1, 2], [1, 2]), ([3], [3]), ([4], [4]), ([5], [5]), ([], []), ([], []), ([7, 8], [7, 8]), ([9], [9]), ([10], [10]), ([11, 6], [11]), ([0, 6, 12, 12], [0, 6, 12]), ([13, 13, 0, 1, 2, 3, 4, 5, 6, 7, 8, 9, 10, 11, 12, 13], [0, 13])])
def cenotaphref04_Fix.B5 : List Nat := [0, 0, 0, 6, 14, 30, 62, 0, 0, 384, 896, 1920, 4094, 8191, 16383]
theorem cenotaphref04_Fix.tab5 : rtab .any (opsOf Try.f27 5) = cenotaphref04_Fix.T5 := by kernel_rfl
theorem cenotaphref04_Fix.bits5 : waitsOk cenotaphref04_Fix.T5.2 cenotaphref04_Fix.B5 = true := by kernel_rfl
theorem cenotaphref04_Fix.calls (k : Nat) (A0 : Option Addr) (c0 : Nat) (l0 : List (S91)) (r : List (S91)) (w : World) (hr0 : Kd.C k91 w A0 l0.length l0) (hc0 : l0.length ≤ c0) (h : cenotaphref04_Fix.f k l0 = some r) :
  Calls Try.prog 27 #[.slice A0 l0.length c0] w fun e w' => ∃ v0_ : Value, e = .returned (v0_) ∧ Kd.V k91 91 w' w.heap.size (fun k_ => (w.heap.size ≤ k_)) v0_ r ∧ Below w.heap.size w w' := by
 have hu89 := Try.underlying89
 have HR0 := aK hr0
 have HC0 := aK hc0
 clear hr0 hc0
 have HB := aK (Below.refl w.heap.size w)
 have H : (cenotaphref04_Fix.l0 k l0 ([] : List (S91)) 0) = some r := h
 clear h
 have H' := aK H
 clear H
 go_enter Try.func27, Try.ntmps27
 go_wp2
 go_loopg [3, 4] k (fun kq v3 v4 w' => ∃ (x3_1 : List (S91)) (x4_1 : Int), v4 = .int .i64 x4_1 ∧ Aside0 (cenotaphref04_Fix.l0 kq l0 x3_1 x4_1 = some r) ∧ Aside0 (kq ≤ k) ∧ Aside0 (Kd.V k91 91 w' w.heap.size (fun k_ => (w.heap.size ≤ k_)) v3 x3_1) ∧ Aside0 (Below w.heap.size w w'))
 case atStart => exact ⟨(([] : List (S91))), (0), zq27_3, H', ⟨Nat.le_refl _⟩, ⟨(Kd.V_nil _ _ _ _ _)⟩, ⟨by repeat (first | (with_reducible first | exact HB.out | apply bA | apply pB | apply bW) | exact HB.out)⟩⟩
 case round =>
  clear H'
  obtain ⟨x3_1, x4_1, rfl, HA, HK1, HO_3, HB⟩ := hrel
  cases gk with
  | zero => exact absurd HA.out (by simp [cenotaphref04_Fix.l0])
  | succ k1 =>
   have H := HA.out
   clear HA
   simp only [cenotaphref04_Fix.l0] at H
   have HC2 := aK H
   clear H
   go_upto_region 3 with (fail)
   go_cut [12] (fun v12 wc => ∃ (kq : Nat) (x12_1 : Bool), v12 = .bool x12_1 ∧ Aside0 (cenotaphref04_Fix.j1 kq l0 x3_1 x4_1 x12_1 = some r) ∧ Aside0 (kq ≤ k1) ∧ Aside0 (Kd.V k91 91 wc w.heap.size (fun k_ => (w.heap.size ≤ k_)) u3 x3_1) ∧ Aside0 (Below w.heap.size w wc))
   case first =>
    have H := HC2.out
    clear HC2
    by_cases c3 : x4_1 < (l0.length : Int)
    ·rw [if_pos c3] at H
     have c3b0 : decide (x4_1 < (l0.length : Int)) = true := dT c3
     clear c3
     (first | rw [c3b0] | (simp only [i64_w, i32_w]; rw [c3b0]) | skip)
     have H' := aK H
     clear H
     go_wp2
     go_meet
     case rel => exact ⟨_, (decide (x4_1 < 10)), zq27_3, H', ⟨by have := HK1.out; first | omega | exact Nat.le_refl _⟩, ⟨by (with_reducible repeat (first | apply Kd.V_alloc | apply Kd.V_drewN | apply Kd.V_drew)); exact HO_3.out⟩, ⟨by repeat (first | (with_reducible first | exact HB.out | apply bA | apply pB | apply bW) | exact HB.out)⟩⟩
    ·rw [if_neg c3] at H
     have c3b0 : decide (x4_1 < (l0.length : Int)) = false := decide_eq_false c3
     clear c3
     (first | rw [c3b0] | (simp only [i64_w, i32_w]; rw [c3b0]) | skip)
     have H' := aK H
     clear H
     go_wp2
     go_meet
     case rel => exact ⟨_, (false), zq27_3, H', ⟨by have := HK1.out; first | omega | exact Nat.le_refl _⟩, ⟨by (with_reducible repeat (first | apply Kd.V_alloc | apply Kd.V_drewN | apply Kd.V_drew)); exact HO_3.out⟩, ⟨by repeat (first | (with_reducible first | exact HB.out | apply bA | apply pB | apply bW) | exact HB.out)⟩⟩
   case rest =>
    clear HC2
    try clear c2
    try clear p2
    try clear c3
    try clear c3b0
    obtain ⟨kq, x12_1, rfl, HA, HJ1, HO_3, HB⟩ := hcut
    cases kq with
    | zero => exact absurd HA.out (by simp [cenotaphref04_Fix.j1])
    | succ kj1 =>
     have H := HA.out
     clear HA
     simp only [cenotaphref04_Fix.j1] at H
     by_cases c4 : x12_1 = true
     ·subst c4
      have H1 : (if 0 ≤ x4_1 then (if x4_1 < (l0.length : Int) then ((cenotaphref01_Fix.f kj1 ((rd_T91 l0 x4_1).f0)).bind fun t652 => ((cenotaphref02_Fix.f kj1 ((rd_T91 l0 x4_1).f1.f0) ((rd_T91 l0 x4_1).f1.f1)).bind fun bt654 => ((cenotaphref04_put.f kj1 x3_1 t652 bt654.1 bt654.2).bind fun t658 => (cenotaphref04_Fix.l0 kj1 l0 t658 (wrap64 (x4_1 + 1)))))) else (none)) else (none)) = some r := by rw [if_pos rfl] at H; exact H
      clear H
      have H := H1
      clear H1
      by_cases c5 : 0 ≤ x4_1
      ·rw [if_pos c5] at H
       have c5b0 : decide (0 ≤ x4_1) = true := dT c5
       clear c5
       by_cases c6 : x4_1 < (l0.length : Int)
       ·rw [if_pos c6] at H
        have c6b0 : decide (x4_1 < (l0.length : Int)) = true := dT c6
        clear c6
        replace H := bM H
        obtain ⟨t652, A70, H⟩ := H
        have A7 := aK A70
        clear A70
        replace H := bM H
        obtain ⟨⟨t654, t655⟩, A80, H⟩ := H
        have A8 := aK A80
        clear A80
        replace H := bM H
        obtain ⟨t658, A90, H⟩ := H
        have A9 := aK A90
        clear A90
        have H' := aK H
        clear H
        try go_wp2
        replace HO_3 := aK (Kd.V_drew HO_3.out)
        replace HB := aK (bW HB.out)
        have p651 : 0 ≤ (x4_1 : Int) := oD zq27_2
        have q651 : x4_1 < (l0.length : Int) := oD zq27_2
        obtain ⟨ad651, A651_2, c651_2, e651, hx651_0, hx651_1, hx651_2, hl651_2, hi651_2⟩ := at_T91 HR0.out x4_1 p651 q651
        have hw651_2 := hx651_2
        have hw651_1 := hx651_1
        have hw651_0 := hx651_0
        cases e651
        replace hx651_0 := pc_ HB hx651_0
        replace hx651_1 := pc_ HB hx651_1
        replace hx651_2 := pc_ HB hx651_2
        have HR651_2 := aK hi651_2
        have HC651_2 := aK hl651_2
        clear hi651_2 hl651_2
        replace p651 := eT p651
        replace q651 := eT q651
        have p653 : 0 ≤ (x4_1 : Int) := oD zq27_2
        have q653 : x4_1 < (l0.length : Int) := oD zq27_2
        obtain ⟨ad653, A653_2, c653_2, e653, hx653_0, hx653_1, hx653_2, hl653_2, hi653_2⟩ := at_T91 HR0.out x4_1 p653 q653
        have hw653_2 := hx653_2
        have hw653_1 := hx653_1
        have hw653_0 := hx653_0
        obtain rfl : ad651 = ad653 := (by injection e653)
        replace hx653_0 := pc_ HB hx653_0
        replace hx653_1 := pc_ HB hx653_1
        replace hx653_2 := pc_ HB hx653_2
        have HR653_2 := aK hi653_2
        have HC653_2 := aK hl653_2
        clear hi653_2 hl653_2
        replace p653 := eT p653
        replace q653 := eT q653
        have ea_ := sI (hx651_2.symm.trans hx653_2)
        injection ea_ with ea_ en_ ec_
        subst ea_
        subst ec_
        clear en_
        refine start_ (n := 15) (S := fun w' => w'.cell? (ad651.add ((x4_1).toNat * 3)) = some (.string ((rd_T91 l0 x4_1).f0)) ∧ w'.cell? ⟨(ad651.add ((x4_1).toNat * 3)).block, (ad651.add ((x4_1).toNat * 3)).off + 1, none⟩ = some (.int .i64 ((rd_T91 l0 x4_1).f1.f0)) ∧ w'.cell? ⟨(ad651.add ((x4_1).toNat * 3)).block, (ad651.add ((x4_1).toNat * 3)).off + 2, none⟩ = some (.slice A651_2 ((rd_T91 l0 x4_1).f1.f1).length c651_2) ∧ w'.cell? (ad651.add ((x4_1).toNat * 3)) = some (.string ((rd_T91 l0 x4_1).f0)) ∧ w'.cell? ⟨(ad651.add ((x4_1).toNat * 3)).block, (ad651.add ((x4_1).toNat * 3)).off + 1, none⟩ = some (.int .i64 ((rd_T91 l0 x4_1).f1.f0)) ∧ w'.cell? ⟨(ad651.add ((x4_1).toNat * 3)).block, (ad651.add ((x4_1).toNat * 3)).off + 2, none⟩ = some (.slice A651_2 ((rd_T91 l0 x4_1).f1.f1).length c651_2)) (ds := []) #[false, false, false, false, false, false, false, false, false, false, false, false, false, false, false] (by kernel_rfl) rfl rfl ⟨(pc_ HB hw651_0), (pc_ HB hw651_1), (pc_ HB hw651_2), (pc_ HB hw653_0), (pc_ HB hw653_1), (pc_ HB hw653_2)⟩ (fun hHeld => ?_); refine with_tabW cenotaphref04_Fix.tab5 cenotaphref04_Fix.bits5 (fun HT_ HW_ => ?_)
        generalize wc.drew = w10 at HO_3 HB HR651_2 HR653_2 hx651_0 hx651_1 hx651_2 hx653_0 hx653_1 hx653_2 hHeld ⊢
        refine p_ 0 15 (mk_ 15 0x1) ?_
        refine p_ 1 16 (mk_ 15 0x3) ?_
        refine p_ 2 17 (mk_ 15 0x7) ?_
        refine p_ 3 18 (mk_ 15 0xf) ?_
        refine p_ 4 19 (mk_ 15 0x1f) ?_
        refine p_ 7 22 (mk_ 15 0x9f) ?_
        refine p_ 8 23 (mk_ 15 0x19f) ?_
        refine p_ 9 24 (mk_ 15 0x39f) ?_
        refine p_ 10 25 (mk_ 15 0x79f) ?_
        refine t_ 5 20 (mk_ 15 0x7bf) hHeld ?_
        refine t_ 11 26 (mk_ 15 0xfbf) hHeld ?_
        refine one_ (i := 6) (N := some 21) #[true, true, true, true, true, true, true, true, true, true, true, true, false, false, false] rfl rfl (one_of HT_.out (by kernel_rfl)) (by decide) (fun K hK => ?_)
        refine goes_ Try.func33 (by kernel_rfl) rfl #[.string ((rd_T91 l0 x4_1).f0)] (by rfl) rfl rfl zq27_0 ?_
        with_reducible refine (cenotaphref01_Fix.calls kj1 ((rd_T91 l0 x4_1).f0) t652 _ A7.out).mono ?_
        rintro e w' ⟨rfl, ⟨nd, rfl⟩⟩
        refine ⟨_, rfl, ?_⟩
        refine hK.out _ _ ⟨(pc_ HB hw651_0), (pc_ HB hw651_1), (pc_ HB hw651_2), (pc_ HB hw653_0), (pc_ HB hw653_1), (pc_ HB hw653_2)⟩ (fun hHeld => ?_)
        clear hK K
        refine norm_ (a' := ?_) ?_ ?_
        rotate_left
        ·show Act.put _ (some 21) _ = _
         simp only [Act.put, lA, lB, lC, i64_w, i32_w]
         rfl
        refine one_ (i := 12) (N := some 27) #[true, true, true, true, true, true, true, true, true, true, true, true, true, false, false] rfl rfl (one_of HT_.out (by kernel_rfl)) (by decide) (fun K hK => ?_)
        refine goes_ Try.func50 (by kernel_rfl) rfl #[.agg #[.int .i64 ((rd_T91 l0 x4_1).f1.f0), .slice A651_2 ((rd_T91 l0 x4_1).f1.f1).length c651_2]] (by rfl) rfl rfl zq27_0 ?_
        with_reducible refine (cenotaphref02_Fix.calls kj1 ((rd_T91 l0 x4_1).f1.f0) _ _ ((rd_T91 l0 x4_1).f1.f1) t654 t655 _ ?side1 ?side2 A8.out).mono ?_
        (case side1 => repeat (first | exact (cB HR653_2.out zq27_1) | (with_reducible refine Kd.C_alloc ?_ _) | (with_reducible refine Kd.C_drewN ?_ _) | (with_reducible refine Kd.C_drew ?_)))
        (case side2 => exact HC653_2.out)
        rintro e w11 ⟨v656, rfl, ho0, hb⟩
        refine ⟨_, rfl, ?_⟩
        replace HO_3 := aK (Kd.V_elder' (by (with_reducible repeat (first | apply Kd.V_alloc | apply Kd.V_drewN | apply Kd.V_drew)); exact HO_3.out) (Kd.R_base ho0) hb)
        have HO657 := aK (Kd.R_lower (Kd.R_newM (M := fun k_ => (w.heap.size ≤ k_)) ho0 (below_size zq27_1) (fun k_ h_ => h_)) (below_size zq27_1))
        replace HB := aK (bS zq27_1 hb)
        (try clear hb)
        (try clear hb2)
        (try clear hk)
        (try clear hi)
        (try clear ho0)
        obtain ⟨Ao12, co12, eo12⟩ := Kd.V_slice HO_3.out
        (first | subst eo12 | (injection eo12 with f1_ f2_ f3_; have f4_ := f1_.symm; have f5_ := f3_.symm; clear f1_ f2_ f3_; subst f4_; subst f5_))
        obtain ⟨Ao13, co13, eo13⟩ := Kd.R_slice HO657.out
        (first | subst eo13 | (injection eo13 with f1_ f2_ f3_; have f4_ := f1_.symm; have f5_ := f3_.symm; clear f1_ f2_ f3_; subst f4_; subst f5_))
        refine hK.out _ _ ⟨(pc_ HB hw651_0), (pc_ HB hw651_1), (pc_ HB hw651_2), (pc_ HB hw653_0), (pc_ HB hw653_1), (pc_ HB hw653_2)⟩ (fun hHeld => ?_)
        clear hK K
        refine norm_ (a' := ?_) ?_ ?_
        rotate_left
        ·show Act.put _ (some 27) _ = _
         simp only [Act.put, lA, lB, lC, i64_w, i32_w]
         rfl
        refine one_ (i := 13) (N := some 28) #[true, true, true, true, true, true, true, true, true, true, true, true, true, true, false] rfl rfl (one_of HT_.out (by kernel_rfl)) (by decide) (fun K hK => ?_)
        refine goes_ Try.func49 (by kernel_rfl) rfl #[.slice Ao12 x3_1.length co12, .string t652, .agg #[.int .i64 t654, .slice Ao13 t655.length co13]] (by rfl) rfl rfl zq27_0 ?_
        with_reducible refine (cenotaphref04_put.calls kj1 (fun k_ => ((w.heap.size ≤ k_) ∧ some k_ ≠ (.slice Ao13 t655.length co13 : Value).ownBlock)) _ _ x3_1 t652 t654 (fun k_ => some k_ = (.slice Ao13 t655.length co13 : Value).ownBlock) _ _ t655 t658 _ ?side1 ?side2 A9.out).mono ?_
        (case side1 => exact HO_3.out)
        (case side2 => exact Kd.R_V (Kd.R_tight rfl (HO657.out)))
        rintro e w14 ⟨v659, rfl, ho0, hb⟩
        refine ⟨_, rfl, ?_⟩
        replace HO_3 := aK (Kd.V_below (by (with_reducible repeat (first | apply Kd.V_alloc | apply Kd.V_drewN | apply Kd.V_drew)); exact HO_3.out) hb)
        have HO660 := aK (Kd.V_lower (Kd.V_mono (ok' := fun k_ => (w.heap.size ≤ k_)) ho0 (fun k_ hk_ => Or.elim hk_ (fun hs_ => Or.elim hs_ (fun hs_ => hs_.1) (fun hs_ => ((HO657.out).1 k_ hs_.symm).1)) (fun hn_ => (Nat.le_trans (below_size zq27_1) hn_)))) (below_size zq27_1))
        replace HO657 := aK (Kd.R_below (by (with_reducible repeat (first | apply Kd.R_alloc | apply Kd.R_drewN | apply Kd.R_drew)); exact HO657.out) hb)
        replace HB := aK (bS zq27_1 hb)
        (try clear hb)
        (try clear hb2)
        (try clear hk)
        (try clear hi)
        (try clear ho0)
        refine hK.out _ _ ⟨(pc_ HB hw651_0), (pc_ HB hw651_1), (pc_ HB hw651_2), (pc_ HB hw653_0), (pc_ HB hw653_1), (pc_ HB hw653_2)⟩ (fun hHeld => ?_)
        clear hK K
        refine norm_ (a' := ?_) ?_ ?_
        rotate_left
        ·show Act.put _ (some 28) _ = _
         simp only [Act.put, lA, lB, lC, i64_w, i32_w]
         rfl
        refine p_ 14 3 (mk_ 15 0x7fff) ?_
        refine done_ (done_of HT_.out (by kernel_rfl)) ?_
        try go_wp2
        go_roundg kj1
        case measure => have := HK1.out; have := HJ1.out; omega
        case rel => exact ⟨(t658), (wrap64 (x4_1 + 1)), zq27_3, H', ⟨by have := HK1.out; have := HJ1.out; omega⟩, ⟨by (with_reducible repeat (first | apply Kd.V_alloc | apply Kd.V_drewN | apply Kd.V_drew)); exact HO660.out⟩, ⟨by repeat (first | (with_reducible first | exact HB.out | apply bA | apply pB | apply bW) | exact HB.out)⟩⟩
       ·rw [if_neg c6] at H
        exact absurd H (by simp)
      ·rw [if_neg c5] at H
       exact absurd H (by simp)
     ·replace c4 := Bool.eq_false_iff.mpr c4
      subst c4
      have H1 : (some x3_1) = some r := by rw [if_neg (show ¬ (false = true) by decide)] at H; exact H
      clear H
      have H := H1
      clear H1
      obtain rfl := sI H
      go_wp2
      go_ret
      exact ⟨_, by first | rfl | (simp [errW_none, errW_some] <;> rfl) | (simp [*, errW_none, errW_some] <;> rfl), by (with_reducible repeat (first | apply Kd.V_alloc | apply Kd.V_drewN | apply Kd.V_drew)); exact HO_3.out, by repeat (first | (with_reducible first | exact HB.out | apply bA | apply pB | apply bW) | exact HB.out)⟩
def layInsItem_ren : Go.Shelf.Ren := ⟨fun | 20 => 83 | n => n, fun | 24 => 41 | 22 => 31 | 3 => 3 | 25 => 82 | 4 => 4 | 0 => 0 | n => n, fun | n => n⟩
theorem layInsItem : Go.Proofs.SlLaysF0.n20 Try.prog layInsItem_ren := { mixed := by kernel_rfl, f20 := ⟨Try.f83.name, by decide, Try.func83.trans (congrArg some (by kernel_rfl))⟩, t0 := Try.underlying0, a0 := Try.isAgg0, z0 := Try.sizeOf0, v0 := Try.zeroValue0, t3 := Try.underlying3, a3 := Try.isAgg3, z3 := Try.sizeOf3, v3 := Try.zeroValue3, t4 := Try.underlying4, a4 := Try.isAgg4, z4 := Try.sizeOf4, v4 := Try.zeroValue4, t22 := Try.underlying31, a22 := Try.isAgg31, z22 := Try.sizeOf31, v22 := Try.zeroValue31, t25 := Try.underlying82, a25 := Try.isAgg82, z25 := Try.sizeOf82, v25 := Try.zeroValue82 }
attribute [local go_sem] run_store_complex
instance : Inhabited S41 := ⟨z41⟩
def bnw (i : ByteArray) (s : Int) (j : ByteArray) (t : Int) : Bool := if s = t then decide (Lib.compareBytes i.data.toList j.data.toList > 0) else decide (s > t)
def bcf (a b : S41) : Int := if bnw a.f1.f0 a.f1.f2 b.f1.f0 b.f1.f2 = true then 1 else if bnw b.f1.f0 b.f1.f2 a.f1.f0 a.f1.f2 = true then -1 else 0
def ben (x : S41) : List Value := [.int .i64 x.f0, .string x.f1.f0, .int .i64 x.f1.f1, .int .i64 x.f1.f2, .bool x.f2, .complex .f64 x.f3.re x.f3.im, .string x.f4, .bool x.f5]
theorem b_newer (i : ByteArray) (q s : Int) (j : ByteArray) (p t : Int) (w : World) :
  Calls Try.prog 53 #[.agg #[.string i, .int .i64 q, .int .i64 s], .agg #[.string j, .int .i64 p, .int .i64 t]] w fun e w' => e = .returned (.bool (bnw i s j t)) ∧ Gr w w' := by
 have HC := aK (fun W => id_Compare.calls i j (Lib.compareBytes i.data.toList j.data.toList) W rfl)
 have hut := Try.underlying38
 have B1 := blk_alloc (blk_new w (.cells #[.string i, .int .i64 q, .int .i64 s] 38)) (.cells #[.string j, .int .i64 p, .int .i64 t] 38)
 have B2 := blk_new (w.alloc (.cells #[.string i, .int .i64 q, .int .i64 s] 38)) (.cells #[.string j, .int .i64 p, .int .i64 t] 38)
 have hsz : (w.alloc (.cells #[.string i, .int .i64 q, .int .i64 s] 38)).heap.size = w.heap.size + 1 := by simp
 rw [hsz] at B2
 have a0 := (bC B1 0).trans (rfl : _ = some (Value.string i))
 have a2 := (bC B1 2).trans (rfl : _ = some (Value.int .i64 s))
 have b0 := (bC B2 0).trans (rfl : _ = some (Value.string j))
 have b2 := (bC B2 2).trans (rfl : _ = some (Value.int .i64 t))
 have HG := aK (Gr.two w (.cells #[.string i, .int .i64 q, .int .i64 s] 38) (.cells #[.string j, .int .i64 p, .int .i64 t] 38))
 clear B1 B2 hsz
 by_cases h : s = t
 ·have h1 : (s != t) = false := by rw [h]; simp
  have hr : bnw i s j t = decide (Lib.compareBytes i.data.toList j.data.toList > 0) := by rw [bnw, if_pos h]
  rw [hr]
  clear hr h
  go_enter Try.func53, Try.ntmps53
  go_wp2_with fail
  refine (HC.out _).mono ?_
  rintro e w1 ⟨rfl, hd⟩
  replace HG := aK (HG.out.trans (Gr.drawn hd))
  clear hd
  go_wp2_with fail
  go_ret
  exact ⟨rfl, HG.out⟩
 ·have h1 : (s != t) = true := by simpa using h
  have hr : bnw i s j t = decide (s > t) := by rw [bnw, if_neg h]
  rw [hr]
  clear hr h
  go_enter Try.func53, Try.ntmps53
  go_wp2_with fail
  go_ret
  exact ⟨rfl, HG.out⟩
theorem b_cmp (x y : S41) (w : World) :
  Calls Try.prog 52 #[.agg (ben x).toArray, .agg (ben y).toArray] w fun e w' => e = .returned (.int .i64 (bcf x y)) ∧ Gr w w' := by
 have HN1 := aK (fun W => b_newer x.f1.f0 x.f1.f1 x.f1.f2 y.f1.f0 y.f1.f1 y.f1.f2 W)
 have HN2 := aK (fun W => b_newer y.f1.f0 y.f1.f1 y.f1.f2 x.f1.f0 x.f1.f1 x.f1.f2 W)
 have hut := Try.underlying41
 have B1 := aK (blk_alloc (blk_new w (.cells (ben x).toArray 41)) (.cells (ben y).toArray 41))
 have B2 := blk_new (w.alloc (.cells (ben x).toArray 41)) (.cells (ben y).toArray 41)
 have hsz : (w.alloc (.cells (ben x).toArray 41)).heap.size = w.heap.size + 1 := by simp
 rw [hsz] at B2
 replace B2 := aK B2
 have HZ := aK (show ((w.alloc (.cells (ben x).toArray 41)).alloc (.cells (ben y).toArray 41)).heap.size = w.heap.size + 2 by simp)
 have HG := aK (Gr.two w (.cells (ben x).toArray 41) (.cells (ben y).toArray 41))
 have a1 := (bC B1.out 1).trans (rfl : _ = some (Value.string x.f1.f0))
 have a2 := (bC B1.out 2).trans (rfl : _ = some (Value.int .i64 x.f1.f1))
 have a3 := (bC B1.out 3).trans (rfl : _ = some (Value.int .i64 x.f1.f2))
 have b1 := (bC B2.out 1).trans (rfl : _ = some (Value.string y.f1.f0))
 have b2 := (bC B2.out 2).trans (rfl : _ = some (Value.int .i64 y.f1.f1))
 have b3 := (bC B2.out 3).trans (rfl : _ = some (Value.int .i64 y.f1.f2))
 clear hsz
 unfold ben at *
 have HR := aK (show bcf x y = if bnw x.f1.f0 x.f1.f2 y.f1.f0 y.f1.f2 = true then 1 else if bnw y.f1.f0 y.f1.f2 x.f1.f0 x.f1.f2 = true then -1 else 0 from rfl)
 generalize bcf x y = r at *
 generalize bnw x.f1.f0 x.f1.f2 y.f1.f0 y.f1.f2 = p at *
 generalize bnw y.f1.f0 y.f1.f2 x.f1.f0 x.f1.f2 = q at *
 go_enter Try.func52, Try.ntmps52
 go_wp2_with fail
 generalize (w.alloc (.cells _ 41)).alloc (.cells _ 41) = W at *
 refine (HN1.out W).mono ?_
 rintro e w1 ⟨rfl, hg⟩
 have hb := hg.below
 replace B1 := aK ((hb.block _ (by rw [HZ.out]; omega)).trans B1.out)
 replace B2 := aK ((hb.block _ (by rw [HZ.out]; omega)).trans B2.out)
 replace HG := aK (HG.out.trans hg)
 replace a1 := (bC B1.out 1).trans (rfl : _ = some (Value.string x.f1.f0))
 replace a2 := (bC B1.out 2).trans (rfl : _ = some (Value.int .i64 x.f1.f1))
 replace a3 := (bC B1.out 3).trans (rfl : _ = some (Value.int .i64 x.f1.f2))
 replace b1 := (bC B2.out 1).trans (rfl : _ = some (Value.string y.f1.f0))
 replace b2 := (bC B2.out 2).trans (rfl : _ = some (Value.int .i64 y.f1.f1))
 replace b3 := (bC B2.out 3).trans (rfl : _ = some (Value.int .i64 y.f1.f2))
 clear hb hg
 cases p with
 | true =>
  obtain rfl : r = 1 := HR.out
  go_wp2_with fail
  go_ret
  exact ⟨rfl, HG.out⟩
 | false =>
  replace HR := aK (show r = if q = true then -1 else 0 from HR.out)
  go_wp2_with fail
  refine (HN2.out w1).mono ?_
  rintro e w2 ⟨rfl, hg⟩
  replace HG := aK (HG.out.trans hg)
  clear hg
  cases q with
  | true =>
   obtain rfl : r = -1 := HR.out
   go_wp2_with fail
   go_ret
   exact ⟨rfl, HG.out⟩
  | false =>
   obtain rfl : r = 0 := HR.out
   go_wp2_with fail
   go_ret
   exact ⟨rfl, HG.out⟩
theorem ben_len (x : S41) : (ben x).length = 8 := rfl
theorem ben_one (x : S41) : ∀ v ∈ ben x, v.oneCell' = true := by
 unfold ben
 repeat (first | refine List.forall_mem_cons.mpr ⟨rfl, ?_⟩ | exact (fun _ h_ => by cases h_))
theorem b_lays (blk off size : Nat) (w : World) : CmpLays Try.prog 52 #[] ben 8 bcf blk off size w := by
 intro m os dk _ x y
 exact (b_cmp x y _).mono fun e w' h => h
def bgt (u v : S41) : Bool := ltOf bcf v u
theorem b_ins (w0 w : World) (base : Nat) (v : Value) (l : List S41) (ok : Nat → Prop) (ho : Kd.R k41 41 w base ok v l) (hb : Below base w0 w) (hbase : base ≤ w.heap.size) (hn : l.length ≤ 100000) :
  Calls Try.prog 83 #[v, .int .i64 0, .int .i64 l.length, .func (.func 52) #[] #[]] w fun e w' => e = .returned (.tuple #[]) ∧ Kd.R k41 41 w' base ok v (isort bgt l) ∧ Below base w0 w' := by
 by_cases hl : l = []
 ·subst hl
  obtain ⟨A, c, rfl, hc, _⟩ := Kd.R_reads ho
  have HO := aK ho
  have HB := aK hb
  clear ho hb
  go_enter Try.func83, Try.ntmps83
  go_wp2
  refine wp_loop_rounds 1 ?_
  rw [rounds_succ]
  go_wp2
  go_end0
  exact ⟨rfl, HO.out, HB.out⟩
 ·obtain ⟨g, cap, rfl, hg, hh, hback⟩ := R_sort (k := 8) (enc := ben) rfl (by decide) ben_len (fun w b o x cs h => k41_openM h) (fun w b o x => k41_mkM w b o x) ho hl hb hbase
  have eg : ∀ args w, (callFunc 52 args).run Try.prog w = .ok (.enter 52 args) w := enters_of Try.func52 (by kernel_rfl) rfl
  have hc := AnyQ.insertionSortCmpFunc layInsItem 8 (fun w => by kernel_rfl) (fun w => by kernel_rfl) ben ben_len ben_one bcf 52 #[] g 0 cap 0 l.toArray.size l.toArray w eg (b_lays g 0 l.toArray.size w) hh hg (Nat.zero_le _) (Nat.le_refl _) (by simp; omega)
  refine hc.mono ?_
  rintro e w' ⟨rfl, n, os, rfl⟩
  have hs : Sort.insertionSort (ltOf bcf) l.toArray 0 l.toArray.size = (isort bgt l).toArray := by rw [List.size_toArray, ins_sort]; rfl
  rw [hs]
  have hlen : (isort bgt l).toArray.size = l.length := by rw [List.size_toArray]; exact (isort_perm _ l).length_eq
  have := hback n (isort bgt l).toArray os hlen
  exact ⟨rfl, this.1, this.2⟩
def store_ByAge.f (l0 : List S41) : Option (List S41) := if l0.length < 20 then some (isort bgt l0) else none
theorem b_stable (w0 w : World) (base : Nat) (v : Value) (l : List S41) (ok : Nat → Prop) (ho : Kd.R k41 41 w base ok v l) (hb : Below base w0 w) (hbase : base ≤ w.heap.size) (hn : l.length < 20) :
  Calls Try.prog 51 #[v, .func (.func 52) #[] #[]] w fun e w' => e = .returned (.tuple #[]) ∧ Kd.R k41 41 w' base ok v (isort bgt l) ∧ Below base w0 w' := by
 have hi := b_ins w0 w base v l ok ho hb hbase (by omega)
 obtain ⟨A, c, rfl, hc, _⟩ := Kd.R_reads ho
 have HI := aK hi
 have q1 : decide ((20 : Int) ≤ (l.length : Int)) = false := decide_eq_false (by omega)
 have q2 : decide ((20 : Int) < (l.length : Int)) = false := decide_eq_false (by omega)
 clear hi ho hb hbase hc hn
 have HS : Aside0 (Calls Try.prog 71 #[.slice A l.length c, .int .i64 l.length, .func (.func 52) #[] #[]] w fun e w' => e = .returned (.tuple #[]) ∧ Kd.R k41 41 w' base ok (.slice A l.length c) (isort bgt l) ∧ Below base w0 w') := by
  refine ⟨?_⟩
  go_enter Try.func71, Try.ntmps71
  go_wp2_with fail
  refine wp_loop_rounds 1 ?_
  rw [rounds_succ]
  go_wp2_with fail
  refine HI.out.mono ?_
  rintro e w1 ⟨rfl, ho1, hb1⟩
  have HO := aK ho1
  have HB := aK hb1
  clear ho1 hb1
  go_wp2_with fail
  refine wp_loop_rounds 1 ?_
  rw [rounds_succ]
  go_wp2_with fail
  go_end0
  exact ⟨rfl, HO.out, HB.out⟩
 clear q1 q2
 go_enter Try.func51, Try.ntmps51
 go_wp2_with fail
 refine HS.out.mono ?_
 rintro e w1 ⟨rfl, ho1, hb1⟩
 have HO := aK ho1
 have HB := aK hb1
 clear ho1 hb1
 go_wp2_with fail
 go_end0
 exact ⟨rfl, HO.out, HB.out⟩
theorem store_ByAge.calls (A0 : Option Addr) (c0 : Nat) (l0 : List S41) (r : List S41) (w : World) (hr0 : Kd.C k41 w A0 l0.length l0) (hc0 : l0.length ≤ c0) (h : store_ByAge.f l0 = some r) :
  Calls Try.prog 28 #[.slice A0 l0.length c0] w fun e w' => ∃ v0_ : Value, e = .returned (v0_) ∧ Kd.R k41 41 w' w.heap.size (fun _ => True) v0_ r ∧ Below w.heap.size w w' := by
 have hlim : l0.length < 20 := by
  by_cases hx : l0.length < 20
  ·exact hx
  ·rw [store_ByAge.f, if_neg hx] at h; cases h
 have hr : isort bgt l0 = r := by rw [store_ByAge.f, if_pos hlim] at h; exact sI h
 have HR := aK hr
 have HL := aK hlim
 have HCL := aK (cloneI A0 c0 l0 w hr0 hc0 (by omega))
 clear hr h hlim hr0 hc0
 go_enter Try.func28, Try.ntmps28
 go_wp2_with fail
 refine HCL.out.mono ?_
 rintro e w1 ⟨v1, rfl, ho1, hb1⟩
 have HST := aK (b_stable w w1 w.heap.size v1 l0 _ ho1 hb1 hb1.size HL.out)
 clear ho1 hb1 HCL
 go_wp2_with fail
 refine HST.out.mono ?_
 rintro e w2 ⟨rfl, ho2, hb2⟩
 have HO := aK ho2
 have HB := aK hb2
 clear ho2 hb2 HST
 go_wp2_with fail
 go_ret
 exact ⟨_, rfl, by rw [← HR.out]; exact HO.out, HB.out⟩
theorem zq29_0 {p_ : Prop} (h_ : p_ := by repeat (first | (with_reducible first | exact HB.out | apply bA | apply pB | apply bW) | exact HB.out)) : p_ := h_
theorem zq29_1 {p_ : Prop} (h_ : p_ := by (with_reducible repeat (first | apply Kd.R_alloc | apply Kd.R_drewN | apply Kd.R_drew)); exact HO_3.out) : p_ := h_
theorem zq29_2 {p_ : Prop} (h_ : p_ := by first | (with_reducible assumption) | assumption) : p_ := h_
theorem zq29_3 {p_ : Prop} (h_ : p_ := by first | rfl | (simp; done) | (simp [*]; done)) : p_ := h_
mutual
def cenotaphref08_ByAge.l0 : Nat → List (S28) → List (S28) → Int → Option ((List (S28)))
 | 0, _, _, _ => none
 | k + 1, x0, x3, x4 => if x4 < (x0.length : Int) then (if 0 ≤ x4 then (if x3.length < 1599289640401 then ((some (x3 ++ [(⟨(rd_T28 x0 x4).f0, (⟨(rd_T28 x0 x4).f1.f0, (rd_T28 x0 x4).f1.f1, (rd_T28 x0 x4).f1.f2⟩ : S24), (rd_T28 x0 x4).f2, (⟨(rd_T28 x0 x4).f3.f0, (rd_T28 x0 x4).f3.f1⟩ : S26), (rd_T28 x0 x4).f4, (rd_T28 x0 x4).f5⟩ : S28)] : List (S28))).bind fun y662 => (cenotaphref08_ByAge.l1 k x0 y662 x4 (wrap64 ((y662.length : Int) - 1)))) else (none)) else (none)) else (some x3)
def cenotaphref08_ByAge.l1 : Nat → List (S28) → List (S28) → Int → Int → Option ((List (S28)))
 | 0, _, _, _, _ => none
 | k + 1, x0, x3, x4, x5 => if x5 > 0 then (if 0 ≤ (wrap64 (x5 - 1)) then (if (wrap64 (x5 - 1)) < (x3.length : Int) then (if 0 ≤ x5 then (if x5 < (x3.length : Int) then ((cenotaphref07_Newer.f k ((rd_T28 x3 (wrap64 (x5 - 1))).f1.f0) ((rd_T28 x3 (wrap64 (x5 - 1))).f1.f1) ((rd_T28 x3 (wrap64 (x5 - 1))).f1.f2) ((rd_T28 x3 x5).f1.f0) ((rd_T28 x3 x5).f1.f1) ((rd_T28 x3 x5).f1.f2)).bind fun t667 => (if t667 = true then (cenotaphref08_ByAge.l1 k x0 ((x3.set ((wrap64 (x5 - 1)) : Int).toNat (⟨(rd_T28 x3 x5).f0, (⟨(rd_T28 x3 x5).f1.f0, (rd_T28 x3 x5).f1.f1, (rd_T28 x3 x5).f1.f2⟩ : S24), (rd_T28 x3 x5).f2, (⟨(rd_T28 x3 x5).f3.f0, (rd_T28 x3 x5).f3.f1⟩ : S26), (rd_T28 x3 x5).f4, (rd_T28 x3 x5).f5⟩ : S28)).set (x5 : Int).toNat (⟨(rd_T28 x3 (wrap64 (x5 - 1))).f0, (⟨(rd_T28 x3 (wrap64 (x5 - 1))).f1.f0, (rd_T28 x3 (wrap64 (x5 - 1))).f1.f1, (rd_T28 x3 (wrap64 (x5 - 1))).f1.f2⟩ : S24), (rd_T28 x3 (wrap64 (x5 - 1))).f2, (⟨(rd_T28 x3 (wrap64 (x5 - 1))).f3.f0, (rd_T28 x3 (wrap64 (x5 - 1))).f3.f1⟩ : S26), (rd_T28 x3 (wrap64 (x5 - 1))).f4, (rd_T28 x3 (wrap64 (x5 - 1))).f5⟩ : S28)) x4 (wrap64 (x5 - 1))) else (cenotaphref08_ByAge.l0 k x0 x3 (wrap64 (x4 + 1))))) else (none)) else (none)) else (none)) else (none)) else (cenotaphref08_ByAge.l0 k x0 x3 (wrap64 (x4 + 1)))
end
def cenotaphref08_ByAge.f (k : Nat) (l0 : List (S28)) : Option ((List (S28))) := cenotaphref08_ByAge.l0 k l0 ([] : List (S28)) 0
theorem cenotaphref08_ByAge.mono_l : ∀ k, (∀ y0 y1 y2, LeO (cenotaphref08_ByAge.l0 k y0 y1 y2) (cenotaphref08_ByAge.l0 (k + 1) y0 y1 y2)) ∧ (∀ y0 y1 y2 y3, LeO (cenotaphref08_ByAge.l1 k y0 y1 y2 y3) (cenotaphref08_ByAge.l1 (k + 1) y0 y1 y2 y3))
 | 0 => ⟨fun _ _ _ r h => by simp [cenotaphref08_ByAge.l0] at h, fun _ _ _ _ r h => by simp [cenotaphref08_ByAge.l1] at h⟩
 | k + 1 => by
  obtain ⟨ih0, ih1⟩ := cenotaphref08_ByAge.mono_l k
  refine ⟨?_, ?_⟩
  ·intro y0 y1 y2
   unfold cenotaphref08_ByAge.l0
   repeat' first
   | (with_reducible exact ih0 _ _ _)
   | (with_reducible exact ih1 _ _ _ _)
   | (with_reducible exact cenotaphref07_Newer.mono _ _ _ _ _ _ _)
   | (with_reducible exact LeO.refl _)
   | (with_reducible exact LeO.none _)
   | (with_reducible refine LeO.ite ?_ ?_)
   | (with_reducible refine LeO.bind ?_ (fun _ => ?_))
   | exact ih0 _ _ _
   | exact ih1 _ _ _ _
   | exact cenotaphref07_Newer.mono _ _ _ _ _ _ _
   | exact LeO.none _
   | refine LeO.ite ?_ ?_
   | refine LeO.bind ?_ (fun _ => ?_)
  ·intro y0 y1 y2 y3
   unfold cenotaphref08_ByAge.l1
   repeat' first
   | (with_reducible exact ih0 _ _ _)
   | (with_reducible exact ih1 _ _ _ _)
   | (with_reducible exact cenotaphref07_Newer.mono _ _ _ _ _ _ _)
   | (with_reducible exact LeO.refl _)
   | (with_reducible exact LeO.none _)
   | (with_reducible refine LeO.ite ?_ ?_)
   | (with_reducible refine LeO.bind ?_ (fun _ => ?_))
   | exact ih0 _ _ _
   | exact ih1 _ _ _ _
   | exact cenotaphref07_Newer.mono _ _ _ _ _ _ _
   | exact LeO.none _
   | refine LeO.ite ?_ ?_
   | refine LeO.bind ?_ (fun _ => ?_)
theorem cenotaphref08_ByAge.mono : ∀ a0 k, LeO (cenotaphref08_ByAge.f k a0) (cenotaphref08_ByAge.f (k + 1) a0) := by
 intro a0 k
 obtain ⟨ih0, ih1⟩ := cenotaphref08_ByAge.mono_l k
 unfold cenotaphref08_ByAge.f
 repeat' first
   | (with_reducible exact ih0 _ _ _)
   | (with_reducible exact ih1 _ _ _ _)
   | (with_reducible exact cenotaphref07_Newer.mono _ _ _ _ _ _ _)
   | (with_reducible exact LeO.refl _)
   | (with_reducible exact LeO.none _)
   | (with_reducible refine LeO.ite ?_ ?_)
   | (with_reducible refine LeO.bind ?_ (fun _ => ?_))
   | exact ih0 _ _ _
   | exact ih1 _ _ _ _
   | exact cenotaphref07_Newer.mono _ _ _ _ _ _ _
   | exact LeO.none _
   | refine LeO.ite ?_ ?_
   | refine LeO.bind ?_ (fun _ => ?_)
def cenotaphref08_ByAge.T7 : Bool × List (List Nat × List Nat) := (true, [([], []), ([0], [0]), ([1], [1]), ([2], [2]), ([2], [2]), ([4, 2], [2, 4]), ([3, 5, 2], [2, 3, 5]), ([6, 2], [2, 6]), ([7, 2], [2, 7]), ([2], [2]), ([2], [2]), ([9, 10, 2], [2, 9, 10]), ([11, 2], [2, 11]), ([12, 2], [2, 12]), ([8, 13, 2, 2], [2, 8, 13]), ([2, 14], [2, 14])])
def cenotaphref08_ByAge.B7 : List Nat := [0, 1, 3, 7, 7, 23, 63, 127, 255, 7, 7, 1543, 3591, 7687, 16383, 32767]
theorem cenotaphref08_ByAge.tab7 : rtab .any (opsOf Try.f29 7) = cenotaphref08_ByAge.T7 := by kernel_rfl
theorem cenotaphref08_ByAge.bits7 : waitsOk cenotaphref08_ByAge.T7.2 cenotaphref08_ByAge.B7 = true := by kernel_rfl
def cenotaphref08_ByAge.T9 : Bool × List (List Nat × List Nat) := (true, [([], []), ([], []), ([1], [1]), ([], []), ([], []), ([], []), ([], []), ([5, 6], [5, 6]), ([7], [7]), ([], []), ([], []), ([10], [10]), ([9, 11], [9, 11]), ([12], [12]), ([0, 2, 0, 1, 2, 5, 6, 7, 8, 13], [0, 2]), ([14, 8, 0, 1, 2, 5, 6, 7, 8, 13], [8, 14]), ([3, 4, 0, 1, 2, 3, 4, 5, 6, 7, 8, 9, 10, 11, 12, 13, 14, 15], [3, 4]), ([16, 13, 15, 0, 1, 2, 3, 4, 5, 6, 7, 8, 9, 10, 11, 12, 13, 14, 15], [13, 16])])
def cenotaphref08_ByAge.B9 : List Nat := [0, 0, 2, 0, 0, 0, 0, 96, 224, 0, 0, 1024, 3584, 7680, 16359, 32743, 65535, 131071]
theorem cenotaphref08_ByAge.tab9 : rtab .any (opsOf Try.f29 9) = cenotaphref08_ByAge.T9 := by kernel_rfl
theorem cenotaphref08_ByAge.bits9 : waitsOk cenotaphref08_ByAge.T9.2 cenotaphref08_ByAge.B9 = true := by kernel_rfl
theorem cenotaphref08_ByAge.calls (k : Nat) (A0 : Option Addr) (c0 : Nat) (l0 : List (S28)) (r : List (S28)) (w : World) (hr0 : Kd.C k28 w A0 l0.length l0) (hc0 : l0.length ≤ c0) (h : cenotaphref08_ByAge.f k l0 = some r) :
  Calls Try.prog 29 #[.slice A0 l0.length c0] w fun e w' => ∃ v0_ : Value, e = .returned (v0_) ∧ Kd.R k28 28 w' w.heap.size (fun _ => True) v0_ r ∧ Below w.heap.size w w' := by
 have hu28 := Try.underlying28
 have hu24 := Try.underlying24
 have HR0 := aK hr0
 have HC0 := aK hc0
 clear hr0 hc0
 have HB := aK (Below.refl w.heap.size w)
 have H : (cenotaphref08_ByAge.l0 k l0 ([] : List (S28)) 0) = some r := h
 clear h
 have H' := aK H
 clear H
 go_enter Try.func29, Try.ntmps29
 go_wp2
 go_loopg [3, 4] k (fun kq v3 v4 w' => ∃ (x3_1 : List (S28)) (x4_1 : Int), v4 = .int .i64 x4_1 ∧ Aside0 (cenotaphref08_ByAge.l0 kq l0 x3_1 x4_1 = some r) ∧ Aside0 (kq ≤ k) ∧ Aside0 (Kd.R k28 28 w' w.heap.size (fun _ => True) v3 x3_1) ∧ Aside0 (Below w.heap.size w w'))
 case atStart => exact ⟨(([] : List (S28))), (0), zq29_3, H', ⟨Nat.le_refl _⟩, ⟨by first | exact Kd.R_nil _ _ _ _ _ | exact Kd.N_nil _ _ _ _ _ | exact Kd.V_nil _ _ _ _ _ | exact Kd.Q_nil _ _ _ _ _ | exact Kd.S_nil _ _ _ _ _⟩, ⟨by repeat (first | (with_reducible first | exact HB.out | apply bA | apply pB | apply bW) | exact HB.out)⟩⟩
 case round =>
  clear H'
  obtain ⟨x3_1, x4_1, rfl, HA, HK1, HO_3, HB⟩ := hrel
  cases gk with
  | zero => exact absurd HA.out (by simp [cenotaphref08_ByAge.l0])
  | succ k1 =>
   have H := HA.out
   clear HA
   simp only [cenotaphref08_ByAge.l0] at H
   by_cases c2 : x4_1 < (l0.length : Int)
   ·rw [if_pos c2] at H
    have c2b0 : decide (x4_1 < (l0.length : Int)) = true := dT c2
    clear c2
    by_cases c3 : 0 ≤ x4_1
    ·rw [if_pos c3] at H
     have c3b0 : decide (0 ≤ x4_1) = true := dT c3
     clear c3
     by_cases c4 : x3_1.length < 1599289640401
     ·rw [if_pos c4] at H
      have LMc4 := aK c4
      clear c4
      obtain ⟨y662, hy662⟩ : ∃ y_ : List (S28), y_ = (x3_1 ++ [(⟨(rd_T28 l0 x4_1).f0, (⟨(rd_T28 l0 x4_1).f1.f0, (rd_T28 l0 x4_1).f1.f1, (rd_T28 l0 x4_1).f1.f2⟩ : S24), (rd_T28 l0 x4_1).f2, (⟨(rd_T28 l0 x4_1).f3.f0, (rd_T28 l0 x4_1).f3.f1⟩ : S26), (rd_T28 l0 x4_1).f4, (rd_T28 l0 x4_1).f5⟩ : S28)]) := ⟨_, rfl⟩
      replace H : (cenotaphref08_ByAge.l1 k1 l0 y662 x4_1 (wrap64 ((y662.length : Int) - 1))) = some r := by first | (rw [hy662]; with_reducible exact H) | (have H2_ := (Option.bind_some _ _).symm.trans H; rw [hy662]; with_reducible exact H2_) | (have H2_ := (Option.bind_some _ _).symm.trans H; with_reducible exact H2_) | with_reducible exact H | (rw [hy662]; exact H) | exact H
      have Ny662 := aK hy662
      clear hy662
      have H' := aK H
      clear H
      have p661 : 0 ≤ (x4_1 : Int) := oD zq29_2
      have q661 : x4_1 < (l0.length : Int) := oD zq29_2
      obtain ⟨ad661, e661, hx661_0, hx661_1, hx661_2, hx661_3, hx661_4, hx661_5, hx661_6, hx661_7, hx661_8⟩ := at_T28 HR0.out x4_1 p661 q661
      cases e661
      replace hx661_0 := pc_ HB hx661_0
      replace hx661_1 := pc_ HB hx661_1
      replace hx661_2 := pc_ HB hx661_2
      replace hx661_3 := pc_ HB hx661_3
      replace hx661_4 := pc_ HB hx661_4
      replace hx661_5 := pc_ HB hx661_5
      replace hx661_6 := pc_ HB hx661_6
      replace hx661_7 := pc_ HB hx661_7
      replace hx661_8 := pc_ HB hx661_8
      replace p661 := eT p661
      replace q661 := eT q661
      go_wp2_with (first | ((with_reducible refine gate_builtin (b := .append) (xs := #[.tmp 12, .tmp 17]) rfl ?_); at_builtin; refine Kd.R_append k28 (w0 := w) w.heap.size rfl (.tmp 12) (.tmp 17) 22 28 (.agg #[(.int .i64 0), (.string ⟨#[]⟩), (.int .i64 0), (.int .i64 0), (.bool false), (.int .i64 0), (.int .i64 0), (.string ⟨#[]⟩), (.bool false)]) 88 rfl Try.underlying22 info28 rfl (by decide) (by omega) u3 x3_1 (⟨(rd_T28 l0 x4_1).f0, (⟨(rd_T28 l0 x4_1).f1.f0, (rd_T28 l0 x4_1).f1.f1, (rd_T28 l0 x4_1).f1.f2⟩ : S24), (rd_T28 l0 x4_1).f2, (⟨(rd_T28 l0 x4_1).f3.f0, (rd_T28 l0 x4_1).f3.f1⟩ : S26), (rd_T28 l0 x4_1).f4, (rd_T28 l0 x4_1).f5⟩ : S28) [.int .i64 ((rd_T28 l0 x4_1).f0), .string ((rd_T28 l0 x4_1).f1.f0), .int .i64 ((rd_T28 l0 x4_1).f1.f1), .int .i64 ((rd_T28 l0 x4_1).f1.f2), .bool ((rd_T28 l0 x4_1).f2), .int .i64 ((rd_T28 l0 x4_1).f3.f0), .int .i64 ((rd_T28 l0 x4_1).f3.f1), .string ((rd_T28 l0 x4_1).f4), .bool ((rd_T28 l0 x4_1).f5)] (fun _ => True) (fun _ => False) rfl rfl ?aP (fun _ hk => hk.elim) ?aF ?aO ?aB ?aS ?aL ?_; (case aP => exact k28_mkM _ _ _ (⟨(rd_T28 l0 x4_1).f0, (⟨(rd_T28 l0 x4_1).f1.f0, (rd_T28 l0 x4_1).f1.f1, (rd_T28 l0 x4_1).f1.f2⟩ : S24), (rd_T28 l0 x4_1).f2, (⟨(rd_T28 l0 x4_1).f3.f0, (rd_T28 l0 x4_1).f3.f1⟩ : S26), (rd_T28 l0 x4_1).f4, (rd_T28 l0 x4_1).f5⟩ : S28)); (case aB => exact zq29_0); (case aF => exact (fun _ _ => trivial)); (case aO => exact zq29_1); (case aS => exact (below_size zq29_0)); (case aL => have := LMc4.out; omega); intro v663 w5 ho hb hg hat; rw [← Ny662.out] at ho; replace HB := aK (hb); have HO664 := aK (ho); clear HO_3; clear ho hb hg hat; obtain ⟨Ao6, co6, eo6⟩ := Kd.R_slice HO664.out; subst eo6))
      go_loopg [5] k1 (fun kq v5 w' => ∃ (x3_2 : List (S28)) (x5_2 : Int), v5 = .int .i64 x5_2 ∧ Aside0 (cenotaphref08_ByAge.l1 kq l0 x3_2 x4_1 x5_2 = some r) ∧ Aside0 (kq ≤ k1) ∧ Aside0 (Kd.R k28 28 w' w.heap.size (fun _ => True) (.slice Ao6 y662.length co6) x3_2) ∧ Aside0 (Below w.heap.size w w'))
      case atStart => exact ⟨(y662), (wrap64 ((y662.length : Int) - 1)), zq29_3, H', ⟨Nat.le_refl _⟩, ⟨by (with_reducible repeat (first | apply Kd.R_alloc | apply Kd.R_drewN | apply Kd.R_drew)); exact HO664.out⟩, ⟨by repeat (first | (with_reducible first | exact HB.out | apply bA | apply pB | apply bW) | exact HB.out)⟩⟩
      case round =>
       clear H'
       try clear c2
       try clear c2b0
       try clear p2
       try clear c3
       try clear c3b0
       try clear c4
       try clear p6
       try clear q6
       try clear hx6
       try clear hx661_0
       try clear hx661_1
       try clear hx661_2
       try clear hx661_3
       try clear hx661_4
       try clear hx661_5
       try clear hx661_6
       try clear hx661_7
       try clear hx661_8
       try clear p661
       try clear q661
       obtain ⟨x3_2, x5_2, rfl, HA, HK2, HO_3, HB⟩ := hrel
       have hl3_2 := (Kd.R_reads' HO_3.out).1
       rw [hl3_2] at HO_3
       (try simp only [hl3_2])
       cases gk with
       | zero => exact absurd HA.out (by simp [cenotaphref08_ByAge.l1])
       | succ k2 =>
        have H := HA.out
        clear HA
        simp only [cenotaphref08_ByAge.l1] at H
        by_cases c7 : x5_2 > 0
        ·rw [if_pos c7] at H
         have c7b0 : decide (0 < x5_2) = true := dT c7
         clear c7
         obtain ⟨ji8, hji8⟩ : ∃ j_ : Int, (wrap64 (x5_2 - 1)) = j_ := ⟨_, rfl⟩
         replace H : (if 0 ≤ (ji8) then (if (ji8) < (x3_2.length : Int) then (if 0 ≤ x5_2 then (if x5_2 < (x3_2.length : Int) then ((cenotaphref07_Newer.f k2 ((rd_T28 x3_2 (ji8)).f1.f0) ((rd_T28 x3_2 (ji8)).f1.f1) ((rd_T28 x3_2 (ji8)).f1.f2) ((rd_T28 x3_2 x5_2).f1.f0) ((rd_T28 x3_2 x5_2).f1.f1) ((rd_T28 x3_2 x5_2).f1.f2)).bind fun t667 => (if t667 = true then (cenotaphref08_ByAge.l1 k2 l0 ((x3_2.set ((ji8) : Int).toNat (⟨(rd_T28 x3_2 x5_2).f0, (⟨(rd_T28 x3_2 x5_2).f1.f0, (rd_T28 x3_2 x5_2).f1.f1, (rd_T28 x3_2 x5_2).f1.f2⟩ : S24), (rd_T28 x3_2 x5_2).f2, (⟨(rd_T28 x3_2 x5_2).f3.f0, (rd_T28 x3_2 x5_2).f3.f1⟩ : S26), (rd_T28 x3_2 x5_2).f4, (rd_T28 x3_2 x5_2).f5⟩ : S28)).set (x5_2 : Int).toNat (⟨(rd_T28 x3_2 (ji8)).f0, (⟨(rd_T28 x3_2 (ji8)).f1.f0, (rd_T28 x3_2 (ji8)).f1.f1, (rd_T28 x3_2 (ji8)).f1.f2⟩ : S24), (rd_T28 x3_2 (ji8)).f2, (⟨(rd_T28 x3_2 (ji8)).f3.f0, (rd_T28 x3_2 (ji8)).f3.f1⟩ : S26), (rd_T28 x3_2 (ji8)).f4, (rd_T28 x3_2 (ji8)).f5⟩ : S28)) x4_1 ji8) else (cenotaphref08_ByAge.l0 k2 l0 x3_2 (wrap64 (x4_1 + 1))))) else (none)) else (none)) else (none)) else (none)) = some r := by first | (rw [hji8] at H; exact H) | (simp only [hji8] at H ⊢; exact H)
         have hji8w : (IntKind.i64.wrap (x5_2 - 1)) = ji8 := (i64_w _).trans hji8
         by_cases c9 : 0 ≤ (ji8)
         ·rw [if_pos c9] at H
          have c9b0 : decide (0 ≤ (ji8)) = true := dT c9
          clear c9
          by_cases c10 : (ji8) < (x3_2.length : Int)
          ·rw [if_pos c10] at H
           have c10b0 : decide ((ji8) < (x3_2.length : Int)) = true := dT c10
           clear c10
           by_cases c11 : 0 ≤ x5_2
           ·rw [if_pos c11] at H
            have c11b0 : decide (0 ≤ x5_2) = true := dT c11
            clear c11
            by_cases c12 : x5_2 < (x3_2.length : Int)
            ·rw [if_pos c12] at H
             have c12b0 : decide (x5_2 < (x3_2.length : Int)) = true := dT c12
             clear c12
             replace H := bM H
             obtain ⟨t667, A130, H⟩ := H
             have A13 := aK A130
             clear A130
             by_cases c14 : t667 = true
             ·subst c14
              have H1 : (cenotaphref08_ByAge.l1 k2 l0 ((x3_2.set ((ji8) : Int).toNat (⟨(rd_T28 x3_2 x5_2).f0, (⟨(rd_T28 x3_2 x5_2).f1.f0, (rd_T28 x3_2 x5_2).f1.f1, (rd_T28 x3_2 x5_2).f1.f2⟩ : S24), (rd_T28 x3_2 x5_2).f2, (⟨(rd_T28 x3_2 x5_2).f3.f0, (rd_T28 x3_2 x5_2).f3.f1⟩ : S26), (rd_T28 x3_2 x5_2).f4, (rd_T28 x3_2 x5_2).f5⟩ : S28)).set (x5_2 : Int).toNat (⟨(rd_T28 x3_2 (ji8)).f0, (⟨(rd_T28 x3_2 (ji8)).f1.f0, (rd_T28 x3_2 (ji8)).f1.f1, (rd_T28 x3_2 (ji8)).f1.f2⟩ : S24), (rd_T28 x3_2 (ji8)).f2, (⟨(rd_T28 x3_2 (ji8)).f3.f0, (rd_T28 x3_2 (ji8)).f3.f1⟩ : S26), (rd_T28 x3_2 (ji8)).f4, (rd_T28 x3_2 (ji8)).f5⟩ : S28)) x4_1 ji8) = some r := by rw [if_pos rfl] at H; exact H
              clear H
              have H := H1
              clear H1
              obtain ⟨y670, hy670⟩ : ∃ y_ : List (S28), y_ = (x3_2.set ((ji8) : Int).toNat (⟨(rd_T28 x3_2 x5_2).f0, (⟨(rd_T28 x3_2 x5_2).f1.f0, (rd_T28 x3_2 x5_2).f1.f1, (rd_T28 x3_2 x5_2).f1.f2⟩ : S24), (rd_T28 x3_2 x5_2).f2, (⟨(rd_T28 x3_2 x5_2).f3.f0, (rd_T28 x3_2 x5_2).f3.f1⟩ : S26), (rd_T28 x3_2 x5_2).f4, (rd_T28 x3_2 x5_2).f5⟩ : S28)) := ⟨_, rfl⟩
              replace H : (cenotaphref08_ByAge.l1 k2 l0 (y670.set (x5_2 : Int).toNat (⟨(rd_T28 x3_2 (ji8)).f0, (⟨(rd_T28 x3_2 (ji8)).f1.f0, (rd_T28 x3_2 (ji8)).f1.f1, (rd_T28 x3_2 (ji8)).f1.f2⟩ : S24), (rd_T28 x3_2 (ji8)).f2, (⟨(rd_T28 x3_2 (ji8)).f3.f0, (rd_T28 x3_2 (ji8)).f3.f1⟩ : S26), (rd_T28 x3_2 (ji8)).f4, (rd_T28 x3_2 (ji8)).f5⟩ : S28)) x4_1 ji8) = some r := by first | (rw [hy670]; with_reducible exact H) | (have H2_ := (Option.bind_some _ _).symm.trans H; rw [hy670]; with_reducible exact H2_) | (have H2_ := (Option.bind_some _ _).symm.trans H; with_reducible exact H2_) | with_reducible exact H | (rw [hy670]; exact H) | exact H
              have Ny670 := aK hy670
              clear hy670
              obtain ⟨y671, hy671⟩ : ∃ y_ : List (S28), y_ = (y670.set (x5_2 : Int).toNat (⟨(rd_T28 x3_2 (ji8)).f0, (⟨(rd_T28 x3_2 (ji8)).f1.f0, (rd_T28 x3_2 (ji8)).f1.f1, (rd_T28 x3_2 (ji8)).f1.f2⟩ : S24), (rd_T28 x3_2 (ji8)).f2, (⟨(rd_T28 x3_2 (ji8)).f3.f0, (rd_T28 x3_2 (ji8)).f3.f1⟩ : S26), (rd_T28 x3_2 (ji8)).f4, (rd_T28 x3_2 (ji8)).f5⟩ : S28)) := ⟨_, rfl⟩
              replace H : (cenotaphref08_ByAge.l1 k2 l0 y671 x4_1 ji8) = some r := by first | (rw [hy671]; with_reducible exact H) | (have H2_ := (Option.bind_some _ _).symm.trans H; rw [hy671]; with_reducible exact H2_) | (have H2_ := (Option.bind_some _ _).symm.trans H; with_reducible exact H2_) | with_reducible exact H | (rw [hy671]; exact H) | exact H
              have Ny671 := aK hy671
              clear hy671
              have H' := aK H
              clear H
              try go_wp2
              replace HO_3 := aK (Kd.R_drew HO_3.out)
              replace HB := aK (bW HB.out)
              have p665 : 0 ≤ ((ji8) : Int) := oD zq29_2
              have q665 : (ji8) < (x3_2.length : Int) := oD zq29_2
              obtain ⟨ad665, e665, hx665_0, hx665_1, hx665_2, hx665_3, hx665_4, hx665_5, hx665_6, hx665_7, hx665_8⟩ := at_T28 (Kd.R_reads' HO_3.out).2.2 (ji8) p665 q665
              cases e665
              replace p665 := eT p665
              replace q665 := eT q665
              have p666 : 0 ≤ (x5_2 : Int) := oD zq29_2
              have q666 : x5_2 < (x3_2.length : Int) := oD zq29_2
              obtain ⟨ad666, e666, hx666_0, hx666_1, hx666_2, hx666_3, hx666_4, hx666_5, hx666_6, hx666_7, hx666_8⟩ := at_T28 (Kd.R_reads' HO_3.out).2.2 x5_2 p666 q666
              obtain rfl : ad665 = ad666 := (by injection e666)
              replace p666 := eT p666
              replace q666 := eT q666
              refine start_ (n := 16) (S := fun w' => w'.cell? (ad665.add (((ji8)).toNat * 9)) = some (.int .i64 ((rd_T28 x3_2 (ji8)).f0)) ∧ w'.cell? ⟨(ad665.add (((ji8)).toNat * 9)).block, (ad665.add (((ji8)).toNat * 9)).off + 1, none⟩ = some (.string ((rd_T28 x3_2 (ji8)).f1.f0)) ∧ w'.cell? ⟨(ad665.add (((ji8)).toNat * 9)).block, (ad665.add (((ji8)).toNat * 9)).off + 2, none⟩ = some (.int .i64 ((rd_T28 x3_2 (ji8)).f1.f1)) ∧ w'.cell? ⟨(ad665.add (((ji8)).toNat * 9)).block, (ad665.add (((ji8)).toNat * 9)).off + 3, none⟩ = some (.int .i64 ((rd_T28 x3_2 (ji8)).f1.f2)) ∧ w'.cell? ⟨(ad665.add (((ji8)).toNat * 9)).block, (ad665.add (((ji8)).toNat * 9)).off + 4, none⟩ = some (.bool ((rd_T28 x3_2 (ji8)).f2)) ∧ w'.cell? ⟨(ad665.add (((ji8)).toNat * 9)).block, (ad665.add (((ji8)).toNat * 9)).off + 5, none⟩ = some (.int .i64 ((rd_T28 x3_2 (ji8)).f3.f0)) ∧ w'.cell? ⟨(ad665.add (((ji8)).toNat * 9)).block, (ad665.add (((ji8)).toNat * 9)).off + 6, none⟩ = some (.int .i64 ((rd_T28 x3_2 (ji8)).f3.f1)) ∧ w'.cell? ⟨(ad665.add (((ji8)).toNat * 9)).block, (ad665.add (((ji8)).toNat * 9)).off + 7, none⟩ = some (.string ((rd_T28 x3_2 (ji8)).f4)) ∧ w'.cell? ⟨(ad665.add (((ji8)).toNat * 9)).block, (ad665.add (((ji8)).toNat * 9)).off + 8, none⟩ = some (.bool ((rd_T28 x3_2 (ji8)).f5)) ∧ w'.cell? (ad665.add ((x5_2).toNat * 9)) = some (.int .i64 ((rd_T28 x3_2 x5_2).f0)) ∧ w'.cell? ⟨(ad665.add ((x5_2).toNat * 9)).block, (ad665.add ((x5_2).toNat * 9)).off + 1, none⟩ = some (.string ((rd_T28 x3_2 x5_2).f1.f0)) ∧ w'.cell? ⟨(ad665.add ((x5_2).toNat * 9)).block, (ad665.add ((x5_2).toNat * 9)).off + 2, none⟩ = some (.int .i64 ((rd_T28 x3_2 x5_2).f1.f1)) ∧ w'.cell? ⟨(ad665.add ((x5_2).toNat * 9)).block, (ad665.add ((x5_2).toNat * 9)).off + 3, none⟩ = some (.int .i64 ((rd_T28 x3_2 x5_2).f1.f2)) ∧ w'.cell? ⟨(ad665.add ((x5_2).toNat * 9)).block, (ad665.add ((x5_2).toNat * 9)).off + 4, none⟩ = some (.bool ((rd_T28 x3_2 x5_2).f2)) ∧ w'.cell? ⟨(ad665.add ((x5_2).toNat * 9)).block, (ad665.add ((x5_2).toNat * 9)).off + 5, none⟩ = some (.int .i64 ((rd_T28 x3_2 x5_2).f3.f0)) ∧ w'.cell? ⟨(ad665.add ((x5_2).toNat * 9)).block, (ad665.add ((x5_2).toNat * 9)).off + 6, none⟩ = some (.int .i64 ((rd_T28 x3_2 x5_2).f3.f1)) ∧ w'.cell? ⟨(ad665.add ((x5_2).toNat * 9)).block, (ad665.add ((x5_2).toNat * 9)).off + 7, none⟩ = some (.string ((rd_T28 x3_2 x5_2).f4)) ∧ w'.cell? ⟨(ad665.add ((x5_2).toNat * 9)).block, (ad665.add ((x5_2).toNat * 9)).off + 8, none⟩ = some (.bool ((rd_T28 x3_2 x5_2).f5))) (ds := []) #[false, false, false, false, false, false, false, false, false, false, false, false, false, false, false, false] (by kernel_rfl) rfl rfl ⟨hx665_0, hx665_1, hx665_2, hx665_3, hx665_4, hx665_5, hx665_6, hx665_7, hx665_8, hx666_0, hx666_1, hx666_2, hx666_3, hx666_4, hx666_5, hx666_6, hx666_7, hx666_8⟩ (fun hHeld => ?_); refine with_tabW cenotaphref08_ByAge.tab7 cenotaphref08_ByAge.bits7 (fun HT_ HW_ => ?_)
              generalize wr.drew = w17 at HO_3 HB hx665_0 hx665_1 hx665_2 hx665_3 hx665_4 hx665_5 hx665_6 hx665_7 hx665_8 hx666_0 hx666_1 hx666_2 hx666_3 hx666_4 hx666_5 hx666_6 hx666_7 hx666_8 hHeld ⊢
              refine p_ 0 22 (mk_ 16 0x1) ?_
              refine p_ 1 23 (mk_ 16 0x3) ?_
              refine p_ 2 24 (mk_ 16 0x7) ?_
              refine p_ 3 25 (mk_ 16 0xf) ?_
              refine p_ 4 26 (mk_ 16 0x1f) ?_
              refine p_ 5 27 (mk_ 16 0x3f) ?_
              refine p_ 6 28 (mk_ 16 0x7f) ?_
              refine p_ 7 29 (mk_ 16 0xff) ?_
              refine p_ 9 31 (mk_ 16 0x2ff) ?_
              refine p_ 10 32 (mk_ 16 0x6ff) ?_
              refine p_ 11 33 (mk_ 16 0xeff) ?_
              refine p_ 12 34 (mk_ 16 0x1eff) ?_
              refine t_ 8 30 (mk_ 16 0x1fff) hHeld ?_
              refine t_ 13 35 (mk_ 16 0x3fff) hHeld ?_
              refine one_ (i := 14) (N := some 36) #[true, true, true, true, true, true, true, true, true, true, true, true, true, true, true, false] rfl rfl (one_of HT_.out (by kernel_rfl)) (by decide) (fun K hK => ?_)
              refine goes_ Try.func24 (by kernel_rfl) rfl #[.agg #[.string ((rd_T28 x3_2 (ji8)).f1.f0), .int .i64 ((rd_T28 x3_2 (ji8)).f1.f1), .int .i64 ((rd_T28 x3_2 (ji8)).f1.f2)], .agg #[.string ((rd_T28 x3_2 x5_2).f1.f0), .int .i64 ((rd_T28 x3_2 x5_2).f1.f1), .int .i64 ((rd_T28 x3_2 x5_2).f1.f2)]] (by rfl) rfl rfl (by (try simp only [List.map_toArray, List.map_cons, List.map_nil]); first | done | (simp only [hji8]; rfl) | rfl | (simp only [List.length_drop, List.length_take]; rfl)) ?_
              with_reducible refine (cenotaphref07_Newer.calls k2 ((rd_T28 x3_2 (ji8)).f1.f0) ((rd_T28 x3_2 (ji8)).f1.f1) ((rd_T28 x3_2 (ji8)).f1.f2) ((rd_T28 x3_2 x5_2).f1.f0) ((rd_T28 x3_2 x5_2).f1.f1) ((rd_T28 x3_2 x5_2).f1.f2) true _ A13.out).mono ?_
              rintro e w18 ⟨rfl, hb⟩
              have HS0_ := (hb.cell (wl_ _ _ (hHeld.1))).trans (hHeld.1)
              have HS1_ := (hb.cell (wl_ _ _ (hHeld.2.1))).trans (hHeld.2.1)
              have HS2_ := (hb.cell (wl_ _ _ (hHeld.2.2.1))).trans (hHeld.2.2.1)
              have HS3_ := (hb.cell (wl_ _ _ (hHeld.2.2.2.1))).trans (hHeld.2.2.2.1)
              have HS4_ := (hb.cell (wl_ _ _ (hHeld.2.2.2.2.1))).trans (hHeld.2.2.2.2.1)
              have HS5_ := (hb.cell (wl_ _ _ (hHeld.2.2.2.2.2.1))).trans (hHeld.2.2.2.2.2.1)
              have HS6_ := (hb.cell (wl_ _ _ (hHeld.2.2.2.2.2.2.1))).trans (hHeld.2.2.2.2.2.2.1)
              have HS7_ := (hb.cell (wl_ _ _ (hHeld.2.2.2.2.2.2.2.1))).trans (hHeld.2.2.2.2.2.2.2.1)
              have HS8_ := (hb.cell (wl_ _ _ (hHeld.2.2.2.2.2.2.2.2.1))).trans (hHeld.2.2.2.2.2.2.2.2.1)
              have HS9_ := (hb.cell (wl_ _ _ (hHeld.2.2.2.2.2.2.2.2.2.1))).trans (hHeld.2.2.2.2.2.2.2.2.2.1)
              have HS10_ := (hb.cell (wl_ _ _ (hHeld.2.2.2.2.2.2.2.2.2.2.1))).trans (hHeld.2.2.2.2.2.2.2.2.2.2.1)
              have HS11_ := (hb.cell (wl_ _ _ (hHeld.2.2.2.2.2.2.2.2.2.2.2.1))).trans (hHeld.2.2.2.2.2.2.2.2.2.2.2.1)
              have HS12_ := (hb.cell (wl_ _ _ (hHeld.2.2.2.2.2.2.2.2.2.2.2.2.1))).trans (hHeld.2.2.2.2.2.2.2.2.2.2.2.2.1)
              have HS13_ := (hb.cell (wl_ _ _ (hHeld.2.2.2.2.2.2.2.2.2.2.2.2.2.1))).trans (hHeld.2.2.2.2.2.2.2.2.2.2.2.2.2.1)
              have HS14_ := (hb.cell (wl_ _ _ (hHeld.2.2.2.2.2.2.2.2.2.2.2.2.2.2.1))).trans (hHeld.2.2.2.2.2.2.2.2.2.2.2.2.2.2.1)
              have HS15_ := (hb.cell (wl_ _ _ (hHeld.2.2.2.2.2.2.2.2.2.2.2.2.2.2.2.1))).trans (hHeld.2.2.2.2.2.2.2.2.2.2.2.2.2.2.2.1)
              have HS16_ := (hb.cell (wl_ _ _ (hHeld.2.2.2.2.2.2.2.2.2.2.2.2.2.2.2.2.1))).trans (hHeld.2.2.2.2.2.2.2.2.2.2.2.2.2.2.2.2.1)
              have HS17_ := (hb.cell (wl_ _ _ (hHeld.2.2.2.2.2.2.2.2.2.2.2.2.2.2.2.2.2))).trans (hHeld.2.2.2.2.2.2.2.2.2.2.2.2.2.2.2.2.2)
              refine ⟨_, rfl, ?_⟩
              replace HO_3 := aK (Kd.R_below zq29_1 hb)
              replace HB := aK (bS zq29_0 hb)
              (try clear hb)
              (try clear hb2)
              (try clear hk)
              (try clear hi)
              refine hK.out _ _ ⟨HS0_, HS1_, HS2_, HS3_, HS4_, HS5_, HS6_, HS7_, HS8_, HS9_, HS10_, HS11_, HS12_, HS13_, HS14_, HS15_, HS16_, HS17_⟩ (fun hHeld => ?_)
              clear hK K
              refine norm_ (a' := ?_) ?_ ?_
              rotate_left
              ·show Act.put _ (some 36) _ = _
               simp only [Act.put, lA, lB, lC, i64_w, i32_w]
               rfl
              refine p_ 15 37 (mk_ 16 0xffff) ?_
              refine done_ (done_of HT_.out (by kernel_rfl)) ?_
              try go_wp2
              replace HO_3 := aK (Kd.R_drew HO_3.out)
              replace HB := aK (bW HB.out)
              have p668 : 0 ≤ (x5_2 : Int) := oD zq29_2
              have q668 : x5_2 < (x3_2.length : Int) := oD zq29_2
              obtain ⟨ad668, e668, hx668_0, hx668_1, hx668_2, hx668_3, hx668_4, hx668_5, hx668_6, hx668_7, hx668_8⟩ := at_T28 (Kd.R_reads' HO_3.out).2.2 x5_2 p668 q668
              obtain rfl : ad665 = ad668 := (by injection e668)
              replace p668 := eT p668
              replace q668 := eT q668
              have p669 : 0 ≤ ((ji8) : Int) := oD zq29_2
              have q669 : (ji8) < (x3_2.length : Int) := oD zq29_2
              obtain ⟨ad669, e669, hx669_0, hx669_1, hx669_2, hx669_3, hx669_4, hx669_5, hx669_6, hx669_7, hx669_8⟩ := at_T28 (Kd.R_reads' HO_3.out).2.2 (ji8) p669 q669
              obtain rfl : ad665 = ad669 := (by injection e669)
              replace p669 := eT p669
              replace q669 := eT q669
              have p15 : 0 ≤ ((ji8) : Int) := oD zq29_2
              have q15 : ((ji8) : Int) < ((x3_2.length : Int) : Int) := oD zq29_2
              obtain ⟨go15, co15, eo15, gb15, gl15, cl15, HG15⟩ := Kd.R_form HO_3.out (by omega)
              (first | cases eo15 | (injection eo15 with ea_ en_ ec_; (first | subst ea_ | (injection ea_ with ea_; subst ea_)); subst ec_; clear en_))
              have GB15 := aK gb15
              have GG15 := aK HG15
              clear gb15 gl15 HG15
              (first | simp only [add_plain] at hx665_0 | skip)
              (first | simp only [add_plain] at hx665_1 | skip)
              (first | simp only [add_plain] at hx665_2 | skip)
              (first | simp only [add_plain] at hx665_3 | skip)
              (first | simp only [add_plain] at hx665_4 | skip)
              (first | simp only [add_plain] at hx665_5 | skip)
              (first | simp only [add_plain] at hx665_6 | skip)
              (first | simp only [add_plain] at hx665_7 | skip)
              (first | simp only [add_plain] at hx665_8 | skip)
              (first | simp only [add_plain] at hx666_0 | skip)
              (first | simp only [add_plain] at hx666_1 | skip)
              (first | simp only [add_plain] at hx666_2 | skip)
              (first | simp only [add_plain] at hx666_3 | skip)
              (first | simp only [add_plain] at hx666_4 | skip)
              (first | simp only [add_plain] at hx666_5 | skip)
              (first | simp only [add_plain] at hx666_6 | skip)
              (first | simp only [add_plain] at hx666_7 | skip)
              (first | simp only [add_plain] at hx666_8 | skip)
              (first | simp only [add_plain] at hx668_0 | skip)
              (first | simp only [add_plain] at hx668_1 | skip)
              (first | simp only [add_plain] at hx668_2 | skip)
              (first | simp only [add_plain] at hx668_3 | skip)
              (first | simp only [add_plain] at hx668_4 | skip)
              (first | simp only [add_plain] at hx668_5 | skip)
              (first | simp only [add_plain] at hx668_6 | skip)
              (first | simp only [add_plain] at hx668_7 | skip)
              (first | simp only [add_plain] at hx668_8 | skip)
              (first | simp only [add_plain] at hx669_0 | skip)
              (first | simp only [add_plain] at hx669_1 | skip)
              (first | simp only [add_plain] at hx669_2 | skip)
              (first | simp only [add_plain] at hx669_3 | skip)
              (first | simp only [add_plain] at hx669_4 | skip)
              (first | simp only [add_plain] at hx669_5 | skip)
              (first | simp only [add_plain] at hx669_6 | skip)
              (first | simp only [add_plain] at hx669_7 | skip)
              (first | simp only [add_plain] at hx669_8 | skip)
              obtain ⟨ce15, hcl15, hM15, hcc15, hfr15⟩ := Kd.R_elem HO_3.out z28 ((ji8) : Int) p15 q15
              obtain rfl := k28_openM hM15
              have hx15_0 : World.cell? _ ⟨go15, ((ji8) : Int).toNat * 9, none⟩ = some (.int .i64 ((rd_T28 x3_2 (ji8)).f0)) := hcc15 0 _ rfl
              have hx15_1 : World.cell? _ ⟨go15, ((ji8) : Int).toNat * 9 + 1, none⟩ = some (.string ((rd_T28 x3_2 (ji8)).f1.f0)) := hcc15 1 _ rfl
              have hx15_2 : World.cell? _ ⟨go15, ((ji8) : Int).toNat * 9 + 2, none⟩ = some (.int .i64 ((rd_T28 x3_2 (ji8)).f1.f1)) := hcc15 2 _ rfl
              have hx15_3 : World.cell? _ ⟨go15, ((ji8) : Int).toNat * 9 + 3, none⟩ = some (.int .i64 ((rd_T28 x3_2 (ji8)).f1.f2)) := hcc15 3 _ rfl
              have hx15_4 : World.cell? _ ⟨go15, ((ji8) : Int).toNat * 9 + 4, none⟩ = some (.bool ((rd_T28 x3_2 (ji8)).f2)) := hcc15 4 _ rfl
              have hx15_5 : World.cell? _ ⟨go15, ((ji8) : Int).toNat * 9 + 5, none⟩ = some (.int .i64 ((rd_T28 x3_2 (ji8)).f3.f0)) := hcc15 5 _ rfl
              have hx15_6 : World.cell? _ ⟨go15, ((ji8) : Int).toNat * 9 + 6, none⟩ = some (.int .i64 ((rd_T28 x3_2 (ji8)).f3.f1)) := hcc15 6 _ rfl
              have hx15_7 : World.cell? _ ⟨go15, ((ji8) : Int).toNat * 9 + 7, none⟩ = some (.string ((rd_T28 x3_2 (ji8)).f4)) := hcc15 7 _ rfl
              have hx15_8 : World.cell? _ ⟨go15, ((ji8) : Int).toNat * 9 + 8, none⟩ = some (.bool ((rd_T28 x3_2 (ji8)).f5)) := hcc15 8 _ rfl
              have hf15_0 : World.frozen? _ ⟨go15, ((ji8) : Int).toNat * 9, none⟩ = false := hfr15 0
              have hf15_1 : World.frozen? _ ⟨go15, ((ji8) : Int).toNat * 9 + 1, none⟩ = false := hfr15 1
              have hf15_2 : World.frozen? _ ⟨go15, ((ji8) : Int).toNat * 9 + 2, none⟩ = false := hfr15 2
              have hf15_3 : World.frozen? _ ⟨go15, ((ji8) : Int).toNat * 9 + 3, none⟩ = false := hfr15 3
              have hf15_4 : World.frozen? _ ⟨go15, ((ji8) : Int).toNat * 9 + 4, none⟩ = false := hfr15 4
              have hf15_5 : World.frozen? _ ⟨go15, ((ji8) : Int).toNat * 9 + 5, none⟩ = false := hfr15 5
              have hf15_6 : World.frozen? _ ⟨go15, ((ji8) : Int).toNat * 9 + 6, none⟩ = false := hfr15 6
              have hf15_7 : World.frozen? _ ⟨go15, ((ji8) : Int).toNat * 9 + 7, none⟩ = false := hfr15 7
              have hf15_8 : World.frozen? _ ⟨go15, ((ji8) : Int).toNat * 9 + 8, none⟩ = false := hfr15 8
              clear hcl15 hcc15 hfr15 hM15
              replace p15 := eT p15
              replace q15 := eT q15
              have hnA_ : (ji8).toNat ≠ (x5_2).toNat := by have h1_ := of_eq_true p15; have h2_ := of_eq_true p668; first | omega | (have hj0_ := hji8; unfold wrap64 at hj0_; omega)
              have hnB_ := hnA_.symm
              (try simp only [World.frozen?_setCells, World.frozen?_setCell] at hf15_0)
              (try simp only [World.frozen?_setCells, World.frozen?_setCell] at hf15_1)
              (try simp only [World.frozen?_setCells, World.frozen?_setCell] at hf15_2)
              (try simp only [World.frozen?_setCells, World.frozen?_setCell] at hf15_3)
              (try simp only [World.frozen?_setCells, World.frozen?_setCell] at hf15_4)
              (try simp only [World.frozen?_setCells, World.frozen?_setCell] at hf15_5)
              (try simp only [World.frozen?_setCells, World.frozen?_setCell] at hf15_6)
              (try simp only [World.frozen?_setCells, World.frozen?_setCell] at hf15_7)
              (try simp only [World.frozen?_setCells, World.frozen?_setCell] at hf15_8)
              refine start_ (n := 18) (S := fun w' => w'.cell? ⟨go15, ((x5_2).toNat * 9), none⟩ = some (.int .i64 ((rd_T28 x3_2 x5_2).f0)) ∧ w'.cell? ⟨go15, ((x5_2).toNat * 9) + 1, none⟩ = some (.string ((rd_T28 x3_2 x5_2).f1.f0)) ∧ w'.cell? ⟨go15, ((x5_2).toNat * 9) + 2, none⟩ = some (.int .i64 ((rd_T28 x3_2 x5_2).f1.f1)) ∧ w'.cell? ⟨go15, ((x5_2).toNat * 9) + 3, none⟩ = some (.int .i64 ((rd_T28 x3_2 x5_2).f1.f2)) ∧ w'.cell? ⟨go15, ((x5_2).toNat * 9) + 4, none⟩ = some (.bool ((rd_T28 x3_2 x5_2).f2)) ∧ w'.cell? ⟨go15, ((x5_2).toNat * 9) + 5, none⟩ = some (.int .i64 ((rd_T28 x3_2 x5_2).f3.f0)) ∧ w'.cell? ⟨go15, ((x5_2).toNat * 9) + 6, none⟩ = some (.int .i64 ((rd_T28 x3_2 x5_2).f3.f1)) ∧ w'.cell? ⟨go15, ((x5_2).toNat * 9) + 7, none⟩ = some (.string ((rd_T28 x3_2 x5_2).f4)) ∧ w'.cell? ⟨go15, ((x5_2).toNat * 9) + 8, none⟩ = some (.bool ((rd_T28 x3_2 x5_2).f5)) ∧ w'.cell? ⟨go15, (((ji8)).toNat * 9), none⟩ = some (.int .i64 ((rd_T28 x3_2 (ji8)).f0)) ∧ w'.cell? ⟨go15, (((ji8)).toNat * 9) + 1, none⟩ = some (.string ((rd_T28 x3_2 (ji8)).f1.f0)) ∧ w'.cell? ⟨go15, (((ji8)).toNat * 9) + 2, none⟩ = some (.int .i64 ((rd_T28 x3_2 (ji8)).f1.f1)) ∧ w'.cell? ⟨go15, (((ji8)).toNat * 9) + 3, none⟩ = some (.int .i64 ((rd_T28 x3_2 (ji8)).f1.f2)) ∧ w'.cell? ⟨go15, (((ji8)).toNat * 9) + 4, none⟩ = some (.bool ((rd_T28 x3_2 (ji8)).f2)) ∧ w'.cell? ⟨go15, (((ji8)).toNat * 9) + 5, none⟩ = some (.int .i64 ((rd_T28 x3_2 (ji8)).f3.f0)) ∧ w'.cell? ⟨go15, (((ji8)).toNat * 9) + 6, none⟩ = some (.int .i64 ((rd_T28 x3_2 (ji8)).f3.f1)) ∧ w'.cell? ⟨go15, (((ji8)).toNat * 9) + 7, none⟩ = some (.string ((rd_T28 x3_2 (ji8)).f4)) ∧ w'.cell? ⟨go15, (((ji8)).toNat * 9) + 8, none⟩ = some (.bool ((rd_T28 x3_2 (ji8)).f5))) (ds := [15, 17]) #[false, false, false, false, false, false, false, false, false, false, false, false, false, false, false, false, false, false] (by kernel_rfl) rfl rfl ⟨hx668_0, hx668_1, hx668_2, hx668_3, hx668_4, hx668_5, hx668_6, hx668_7, hx668_8, hx669_0, hx669_1, hx669_2, hx669_3, hx669_4, hx669_5, hx669_6, hx669_7, hx669_8⟩ (fun hHeld => ?_); refine with_tabW cenotaphref08_ByAge.tab9 cenotaphref08_ByAge.bits9 (fun HT_ HW_ => ?_)
              generalize w18.drew = w19 at HO_3 HB GG15 hf15_0 hf15_1 hf15_2 hf15_3 hf15_4 hf15_5 hf15_6 hf15_7 hf15_8 hx15_0 hx15_1 hx15_2 hx15_3 hx15_4 hx15_5 hx15_6 hx15_7 hx15_8 hx665_0 hx665_1 hx665_2 hx665_3 hx665_4 hx665_5 hx665_6 hx665_7 hx665_8 hx666_0 hx666_1 hx666_2 hx666_3 hx666_4 hx666_5 hx666_6 hx666_7 hx666_8 hx668_0 hx668_1 hx668_2 hx668_3 hx668_4 hx668_5 hx668_6 hx668_7 hx668_8 hx669_0 hx669_1 hx669_2 hx669_3 hx669_4 hx669_5 hx669_6 hx669_7 hx669_8 hHeld ⊢
              refine p_ 0 40 (mk_ 18 0x1) ?_
              refine p_ 1 41 (mk_ 18 0x3) ?_
              refine p_ 2 42 (mk_ 18 0x7) ?_
              refine p_ 3 43 (mk_ 18 0xf) ?_
              refine p_ 4 44 (mk_ 18 0x1f) ?_
              refine p_ 5 45 (mk_ 18 0x3f) ?_
              refine p_ 6 46 (mk_ 18 0x7f) ?_
              refine p_ 7 47 (mk_ 18 0xff) ?_
              refine p_ 9 49 (mk_ 18 0x2ff) ?_
              refine p_ 10 50 (mk_ 18 0x6ff) ?_
              refine p_ 11 51 (mk_ 18 0xeff) ?_
              refine p_ 12 52 (mk_ 18 0x1eff) ?_
              refine t_ 8 48 (mk_ 18 0x1fff) hHeld ?_
              refine t_ 13 53 (mk_ 18 0x3fff) hHeld ?_
              refine p_ 14 54 (mk_ 18 0x7fff) ?_
              refine last_ (i := 15) (N := none) #[true, true, true, true, true, true, true, true, true, true, true, true, true, true, true, true, false, false] rfl rfl (one_of HT_.out (by kernel_rfl)) (by decide) (fun K hK => ?_)
              refine ev_ (p := ?p20) (x := ?x20) (o' := ?o20) k28 z28 28 ((ji8) : Int) (⟨(rd_T28 x3_2 x5_2).f0, (⟨(rd_T28 x3_2 x5_2).f1.f0, (rd_T28 x3_2 x5_2).f1.f1, (rd_T28 x3_2 x5_2).f1.f2⟩ : S24), (rd_T28 x3_2 x5_2).f2, (⟨(rd_T28 x3_2 x5_2).f3.f0, (rd_T28 x3_2 x5_2).f3.f1⟩ : S26), (rd_T28 x3_2 x5_2).f4, (rd_T28 x3_2 x5_2).f5⟩ : S28) #[.int .i64 ((rd_T28 x3_2 x5_2).f0), .string ((rd_T28 x3_2 x5_2).f1.f0), .int .i64 ((rd_T28 x3_2 x5_2).f1.f1), .int .i64 ((rd_T28 x3_2 x5_2).f1.f2), .bool ((rd_T28 x3_2 x5_2).f2), .int .i64 ((rd_T28 x3_2 x5_2).f3.f0), .int .i64 ((rd_T28 x3_2 x5_2).f3.f1), .string ((rd_T28 x3_2 x5_2).f4), .bool ((rd_T28 x3_2 x5_2).f5)] HO_3.out HB.out (oD zq29_2) (by have h_ : ((ji8) : Int) < ((x3_2.length : Int) : Int) := oD zq29_2; first | exact h_ | (have e_ := (Kd.R_reads' HO_3.out).1; omega) | simpa using h_) (k28_mkM _ _ _ (⟨(rd_T28 x3_2 x5_2).f0, (⟨(rd_T28 x3_2 x5_2).f1.f0, (rd_T28 x3_2 x5_2).f1.f1, (rd_T28 x3_2 x5_2).f1.f2⟩ : S24), (rd_T28 x3_2 x5_2).f2, (⟨(rd_T28 x3_2 x5_2).f3.f0, (rd_T28 x3_2 x5_2).f3.f1⟩ : S26), (rd_T28 x3_2 x5_2).f4, (rd_T28 x3_2 x5_2).f5⟩ : S28) ) (fun _ hk => hk) rfl rfl (by kernel_rfl) ?hw20 ?hN20 ?ho20 ?ha20 ?hf20 ?hx20 ?_; (case hw20 => rfl); (case hN20 => rfl); (case ho20 => rfl); (case ha20 => rfl); (case hf20 => rfl); (case hx20 => rfl)
              intro w20_ HS20_ HT20_ HG20_
              rw [← Ny670.out] at HS20_
              clear HO_3 HB
              have HO_3 := aK HS20_
              have HB := aK HT20_
              clear HS20_ HT20_ HG20_
              refine hK.out _ _ ?_
              clear hK K
              refine p_ 16 55 (mk_ 18 0x1ffff) ?_
              refine last_ (i := 17) (N := none) #[true, true, true, true, true, true, true, true, true, true, true, true, true, true, true, true, true, true] rfl rfl (one_of HT_.out (by kernel_rfl)) (by decide) (fun K hK => ?_)
              refine ev_ (p := ?p21) (x := ?x21) (o' := ?o21) k28 z28 28 (x5_2 : Int) (⟨(rd_T28 x3_2 (ji8)).f0, (⟨(rd_T28 x3_2 (ji8)).f1.f0, (rd_T28 x3_2 (ji8)).f1.f1, (rd_T28 x3_2 (ji8)).f1.f2⟩ : S24), (rd_T28 x3_2 (ji8)).f2, (⟨(rd_T28 x3_2 (ji8)).f3.f0, (rd_T28 x3_2 (ji8)).f3.f1⟩ : S26), (rd_T28 x3_2 (ji8)).f4, (rd_T28 x3_2 (ji8)).f5⟩ : S28) #[.int .i64 ((rd_T28 x3_2 (ji8)).f0), .string ((rd_T28 x3_2 (ji8)).f1.f0), .int .i64 ((rd_T28 x3_2 (ji8)).f1.f1), .int .i64 ((rd_T28 x3_2 (ji8)).f1.f2), .bool ((rd_T28 x3_2 (ji8)).f2), .int .i64 ((rd_T28 x3_2 (ji8)).f3.f0), .int .i64 ((rd_T28 x3_2 (ji8)).f3.f1), .string ((rd_T28 x3_2 (ji8)).f4), .bool ((rd_T28 x3_2 (ji8)).f5)] HO_3.out HB.out (oD zq29_2) (by have h_ : (x5_2 : Int) < ((x3_2.length : Int) : Int) := oD zq29_2; first | exact h_ | (have e_ := (Kd.R_reads' HO_3.out).1; omega) | simpa using h_) (k28_mkM _ _ _ (⟨(rd_T28 x3_2 (ji8)).f0, (⟨(rd_T28 x3_2 (ji8)).f1.f0, (rd_T28 x3_2 (ji8)).f1.f1, (rd_T28 x3_2 (ji8)).f1.f2⟩ : S24), (rd_T28 x3_2 (ji8)).f2, (⟨(rd_T28 x3_2 (ji8)).f3.f0, (rd_T28 x3_2 (ji8)).f3.f1⟩ : S26), (rd_T28 x3_2 (ji8)).f4, (rd_T28 x3_2 (ji8)).f5⟩ : S28) ) (fun _ hk => hk) rfl rfl (by kernel_rfl) ?hw21 ?hN21 ?ho21 ?ha21 ?hf21 ?hx21 ?_; (case hw21 => rfl); (case hN21 => rfl); (case ho21 => rfl); (case ha21 => rfl); (case hf21 => rfl); (case hx21 => rfl)
              intro w21_ HS21_ HT21_ HG21_
              rw [← Ny671.out] at HS21_
              clear HO_3 HB
              have HO_3 := aK HS21_
              have HB := aK HT21_
              clear HS21_ HT21_ HG21_
              refine hK.out _ _ ?_
              clear hK K
              refine done_ (done_of HT_.out (by kernel_rfl)) ?_
              try go_wp2
              (try simp only [← hl3_2])
              go_roundg k2
              case measure => have := HK1.out; have := HK2.out; omega
              case rel => exact ⟨(y671), (ji8), (by first | rfl | (simp; done) | (simp only [← hji8] <;> (first | rfl | simp)) | (simp [*]; done)), H', ⟨by have := HK1.out; have := HK2.out; omega⟩, ⟨by (try simp only [hl3_2]); (with_reducible repeat (first | apply Kd.R_alloc | apply Kd.R_drewN | apply Kd.R_drew)); exact HO_3.out⟩, ⟨by repeat (first | (with_reducible first | exact HB.out | apply bA | apply pB | apply bW | refine below_set ?_ GB15.out | refine below_set ?_ GB15.out | refine below_set ?_ GB15.out | refine below_set ?_ GB15.out | refine below_set ?_ GB15.out | refine below_set ?_ GB15.out | refine below_set ?_ GB15.out | refine below_set ?_ GB15.out | refine below_set ?_ GB15.out | refine below_set ?_ GB15.out | refine below_set ?_ GB15.out | refine below_set ?_ GB15.out | refine below_set ?_ GB15.out | refine below_set ?_ GB15.out | refine below_set ?_ GB15.out | refine below_set ?_ GB15.out | refine below_set ?_ GB15.out | refine below_set ?_ GB15.out) | exact HB.out)⟩⟩
             ·replace c14 := Bool.eq_false_iff.mpr c14
              subst c14
              have H1 : (cenotaphref08_ByAge.l0 k2 l0 x3_2 (wrap64 (x4_1 + 1))) = some r := by rw [if_neg (show ¬ (false = true) by decide)] at H; exact H
              clear H
              have H := H1
              clear H1
              have H' := aK H
              clear H
              try go_wp2
              replace HO_3 := aK (Kd.R_drew HO_3.out)
              replace HB := aK (bW HB.out)
              have p665 : 0 ≤ ((ji8) : Int) := oD zq29_2
              have q665 : (ji8) < (x3_2.length : Int) := oD zq29_2
              obtain ⟨ad665, e665, hx665_0, hx665_1, hx665_2, hx665_3, hx665_4, hx665_5, hx665_6, hx665_7, hx665_8⟩ := at_T28 (Kd.R_reads' HO_3.out).2.2 (ji8) p665 q665
              cases e665
              replace p665 := eT p665
              replace q665 := eT q665
              have p666 : 0 ≤ (x5_2 : Int) := oD zq29_2
              have q666 : x5_2 < (x3_2.length : Int) := oD zq29_2
              obtain ⟨ad666, e666, hx666_0, hx666_1, hx666_2, hx666_3, hx666_4, hx666_5, hx666_6, hx666_7, hx666_8⟩ := at_T28 (Kd.R_reads' HO_3.out).2.2 x5_2 p666 q666
              obtain rfl : ad665 = ad666 := (by injection e666)
              replace p666 := eT p666
              replace q666 := eT q666
              refine start_ (n := 16) (S := fun w' => w'.cell? (ad665.add (((ji8)).toNat * 9)) = some (.int .i64 ((rd_T28 x3_2 (ji8)).f0)) ∧ w'.cell? ⟨(ad665.add (((ji8)).toNat * 9)).block, (ad665.add (((ji8)).toNat * 9)).off + 1, none⟩ = some (.string ((rd_T28 x3_2 (ji8)).f1.f0)) ∧ w'.cell? ⟨(ad665.add (((ji8)).toNat * 9)).block, (ad665.add (((ji8)).toNat * 9)).off + 2, none⟩ = some (.int .i64 ((rd_T28 x3_2 (ji8)).f1.f1)) ∧ w'.cell? ⟨(ad665.add (((ji8)).toNat * 9)).block, (ad665.add (((ji8)).toNat * 9)).off + 3, none⟩ = some (.int .i64 ((rd_T28 x3_2 (ji8)).f1.f2)) ∧ w'.cell? ⟨(ad665.add (((ji8)).toNat * 9)).block, (ad665.add (((ji8)).toNat * 9)).off + 4, none⟩ = some (.bool ((rd_T28 x3_2 (ji8)).f2)) ∧ w'.cell? ⟨(ad665.add (((ji8)).toNat * 9)).block, (ad665.add (((ji8)).toNat * 9)).off + 5, none⟩ = some (.int .i64 ((rd_T28 x3_2 (ji8)).f3.f0)) ∧ w'.cell? ⟨(ad665.add (((ji8)).toNat * 9)).block, (ad665.add (((ji8)).toNat * 9)).off + 6, none⟩ = some (.int .i64 ((rd_T28 x3_2 (ji8)).f3.f1)) ∧ w'.cell? ⟨(ad665.add (((ji8)).toNat * 9)).block, (ad665.add (((ji8)).toNat * 9)).off + 7, none⟩ = some (.string ((rd_T28 x3_2 (ji8)).f4)) ∧ w'.cell? ⟨(ad665.add (((ji8)).toNat * 9)).block, (ad665.add (((ji8)).toNat * 9)).off + 8, none⟩ = some (.bool ((rd_T28 x3_2 (ji8)).f5)) ∧ w'.cell? (ad665.add ((x5_2).toNat * 9)) = some (.int .i64 ((rd_T28 x3_2 x5_2).f0)) ∧ w'.cell? ⟨(ad665.add ((x5_2).toNat * 9)).block, (ad665.add ((x5_2).toNat * 9)).off + 1, none⟩ = some (.string ((rd_T28 x3_2 x5_2).f1.f0)) ∧ w'.cell? ⟨(ad665.add ((x5_2).toNat * 9)).block, (ad665.add ((x5_2).toNat * 9)).off + 2, none⟩ = some (.int .i64 ((rd_T28 x3_2 x5_2).f1.f1)) ∧ w'.cell? ⟨(ad665.add ((x5_2).toNat * 9)).block, (ad665.add ((x5_2).toNat * 9)).off + 3, none⟩ = some (.int .i64 ((rd_T28 x3_2 x5_2).f1.f2)) ∧ w'.cell? ⟨(ad665.add ((x5_2).toNat * 9)).block, (ad665.add ((x5_2).toNat * 9)).off + 4, none⟩ = some (.bool ((rd_T28 x3_2 x5_2).f2)) ∧ w'.cell? ⟨(ad665.add ((x5_2).toNat * 9)).block, (ad665.add ((x5_2).toNat * 9)).off + 5, none⟩ = some (.int .i64 ((rd_T28 x3_2 x5_2).f3.f0)) ∧ w'.cell? ⟨(ad665.add ((x5_2).toNat * 9)).block, (ad665.add ((x5_2).toNat * 9)).off + 6, none⟩ = some (.int .i64 ((rd_T28 x3_2 x5_2).f3.f1)) ∧ w'.cell? ⟨(ad665.add ((x5_2).toNat * 9)).block, (ad665.add ((x5_2).toNat * 9)).off + 7, none⟩ = some (.string ((rd_T28 x3_2 x5_2).f4)) ∧ w'.cell? ⟨(ad665.add ((x5_2).toNat * 9)).block, (ad665.add ((x5_2).toNat * 9)).off + 8, none⟩ = some (.bool ((rd_T28 x3_2 x5_2).f5))) (ds := []) #[false, false, false, false, false, false, false, false, false, false, false, false, false, false, false, false] (by kernel_rfl) rfl rfl ⟨hx665_0, hx665_1, hx665_2, hx665_3, hx665_4, hx665_5, hx665_6, hx665_7, hx665_8, hx666_0, hx666_1, hx666_2, hx666_3, hx666_4, hx666_5, hx666_6, hx666_7, hx666_8⟩ (fun hHeld => ?_); refine with_tabW cenotaphref08_ByAge.tab7 cenotaphref08_ByAge.bits7 (fun HT_ HW_ => ?_)
              generalize wr.drew = w22 at HO_3 HB hx665_0 hx665_1 hx665_2 hx665_3 hx665_4 hx665_5 hx665_6 hx665_7 hx665_8 hx666_0 hx666_1 hx666_2 hx666_3 hx666_4 hx666_5 hx666_6 hx666_7 hx666_8 hHeld ⊢
              refine p_ 0 22 (mk_ 16 0x1) ?_
              refine p_ 1 23 (mk_ 16 0x3) ?_
              refine p_ 2 24 (mk_ 16 0x7) ?_
              refine p_ 3 25 (mk_ 16 0xf) ?_
              refine p_ 4 26 (mk_ 16 0x1f) ?_
              refine p_ 5 27 (mk_ 16 0x3f) ?_
              refine p_ 6 28 (mk_ 16 0x7f) ?_
              refine p_ 7 29 (mk_ 16 0xff) ?_
              refine p_ 9 31 (mk_ 16 0x2ff) ?_
              refine p_ 10 32 (mk_ 16 0x6ff) ?_
              refine p_ 11 33 (mk_ 16 0xeff) ?_
              refine p_ 12 34 (mk_ 16 0x1eff) ?_
              refine t_ 8 30 (mk_ 16 0x1fff) hHeld ?_
              refine t_ 13 35 (mk_ 16 0x3fff) hHeld ?_
              refine one_ (i := 14) (N := some 36) #[true, true, true, true, true, true, true, true, true, true, true, true, true, true, true, false] rfl rfl (one_of HT_.out (by kernel_rfl)) (by decide) (fun K hK => ?_)
              refine goes_ Try.func24 (by kernel_rfl) rfl #[.agg #[.string ((rd_T28 x3_2 (ji8)).f1.f0), .int .i64 ((rd_T28 x3_2 (ji8)).f1.f1), .int .i64 ((rd_T28 x3_2 (ji8)).f1.f2)], .agg #[.string ((rd_T28 x3_2 x5_2).f1.f0), .int .i64 ((rd_T28 x3_2 x5_2).f1.f1), .int .i64 ((rd_T28 x3_2 x5_2).f1.f2)]] (by rfl) rfl rfl (by (try simp only [List.map_toArray, List.map_cons, List.map_nil]); first | done | (simp only [hji8]; rfl) | rfl | (simp only [List.length_drop, List.length_take]; rfl)) ?_
              with_reducible refine (cenotaphref07_Newer.calls k2 ((rd_T28 x3_2 (ji8)).f1.f0) ((rd_T28 x3_2 (ji8)).f1.f1) ((rd_T28 x3_2 (ji8)).f1.f2) ((rd_T28 x3_2 x5_2).f1.f0) ((rd_T28 x3_2 x5_2).f1.f1) ((rd_T28 x3_2 x5_2).f1.f2) false _ A13.out).mono ?_
              rintro e w23 ⟨rfl, hb⟩
              have HS0_ := (hb.cell (wl_ _ _ (hHeld.1))).trans (hHeld.1)
              have HS1_ := (hb.cell (wl_ _ _ (hHeld.2.1))).trans (hHeld.2.1)
              have HS2_ := (hb.cell (wl_ _ _ (hHeld.2.2.1))).trans (hHeld.2.2.1)
              have HS3_ := (hb.cell (wl_ _ _ (hHeld.2.2.2.1))).trans (hHeld.2.2.2.1)
              have HS4_ := (hb.cell (wl_ _ _ (hHeld.2.2.2.2.1))).trans (hHeld.2.2.2.2.1)
              have HS5_ := (hb.cell (wl_ _ _ (hHeld.2.2.2.2.2.1))).trans (hHeld.2.2.2.2.2.1)
              have HS6_ := (hb.cell (wl_ _ _ (hHeld.2.2.2.2.2.2.1))).trans (hHeld.2.2.2.2.2.2.1)
              have HS7_ := (hb.cell (wl_ _ _ (hHeld.2.2.2.2.2.2.2.1))).trans (hHeld.2.2.2.2.2.2.2.1)
              have HS8_ := (hb.cell (wl_ _ _ (hHeld.2.2.2.2.2.2.2.2.1))).trans (hHeld.2.2.2.2.2.2.2.2.1)
              have HS9_ := (hb.cell (wl_ _ _ (hHeld.2.2.2.2.2.2.2.2.2.1))).trans (hHeld.2.2.2.2.2.2.2.2.2.1)
              have HS10_ := (hb.cell (wl_ _ _ (hHeld.2.2.2.2.2.2.2.2.2.2.1))).trans (hHeld.2.2.2.2.2.2.2.2.2.2.1)
              have HS11_ := (hb.cell (wl_ _ _ (hHeld.2.2.2.2.2.2.2.2.2.2.2.1))).trans (hHeld.2.2.2.2.2.2.2.2.2.2.2.1)
              have HS12_ := (hb.cell (wl_ _ _ (hHeld.2.2.2.2.2.2.2.2.2.2.2.2.1))).trans (hHeld.2.2.2.2.2.2.2.2.2.2.2.2.1)
              have HS13_ := (hb.cell (wl_ _ _ (hHeld.2.2.2.2.2.2.2.2.2.2.2.2.2.1))).trans (hHeld.2.2.2.2.2.2.2.2.2.2.2.2.2.1)
              have HS14_ := (hb.cell (wl_ _ _ (hHeld.2.2.2.2.2.2.2.2.2.2.2.2.2.2.1))).trans (hHeld.2.2.2.2.2.2.2.2.2.2.2.2.2.2.1)
              have HS15_ := (hb.cell (wl_ _ _ (hHeld.2.2.2.2.2.2.2.2.2.2.2.2.2.2.2.1))).trans (hHeld.2.2.2.2.2.2.2.2.2.2.2.2.2.2.2.1)
              have HS16_ := (hb.cell (wl_ _ _ (hHeld.2.2.2.2.2.2.2.2.2.2.2.2.2.2.2.2.1))).trans (hHeld.2.2.2.2.2.2.2.2.2.2.2.2.2.2.2.2.1)
              have HS17_ := (hb.cell (wl_ _ _ (hHeld.2.2.2.2.2.2.2.2.2.2.2.2.2.2.2.2.2))).trans (hHeld.2.2.2.2.2.2.2.2.2.2.2.2.2.2.2.2.2)
              refine ⟨_, rfl, ?_⟩
              replace HO_3 := aK (Kd.R_below zq29_1 hb)
              replace HB := aK (bS zq29_0 hb)
              (try clear hb)
              (try clear hb2)
              (try clear hk)
              (try clear hi)
              refine hK.out _ _ ⟨HS0_, HS1_, HS2_, HS3_, HS4_, HS5_, HS6_, HS7_, HS8_, HS9_, HS10_, HS11_, HS12_, HS13_, HS14_, HS15_, HS16_, HS17_⟩ (fun hHeld => ?_)
              clear hK K
              refine norm_ (a' := ?_) ?_ ?_
              rotate_left
              ·show Act.put _ (some 36) _ = _
               simp only [Act.put, lA, lB, lC, i64_w, i32_w]
               rfl
              refine p_ 15 37 (mk_ 16 0xffff) ?_
              refine done_ (done_of HT_.out (by kernel_rfl)) ?_
              try go_wp2
              (try simp only [← hl3_2])
              go_roundg k2
              case measure => have := HK1.out; have := HK2.out; omega
              case rel => exact ⟨(x3_2), (wrap64 (x4_1 + 1)), zq29_3, H', ⟨by have := HK1.out; have := HK2.out; omega⟩, ⟨by (try simp only [hl3_2]); (with_reducible repeat (first | apply Kd.R_alloc | apply Kd.R_drewN | apply Kd.R_drew)); exact HO_3.out⟩, ⟨by repeat (first | (with_reducible first | exact HB.out | apply bA | apply pB | apply bW) | exact HB.out)⟩⟩
            ·rw [if_neg c12] at H
             exact absurd H (by simp)
           ·rw [if_neg c11] at H
            exact absurd H (by simp)
          ·rw [if_neg c10] at H
           exact absurd H (by simp)
         ·rw [if_neg c9] at H
          exact absurd H (by simp)
        ·rw [if_neg c7] at H
         have c7b0 : decide (0 < x5_2) = false := decide_eq_false c7
         clear c7
         have H' := aK H
         clear H
         try go_wp2
         replace HO_3 := aK (Kd.R_drew HO_3.out)
         replace HB := aK (bW HB.out)
         refine start_ (n := 16) (S := fun w' => True) (ds := []) #[false, false, false, false, false, false, false, false, false, false, false, false, false, false, false, false] (by kernel_rfl) rfl rfl trivial (fun hHeld => ?_); refine with_tabW cenotaphref08_ByAge.tab7 cenotaphref08_ByAge.bits7 (fun HT_ HW_ => ?_)
         generalize wr.drew = w24 at HO_3 HB hHeld ⊢
         refine p_ 0 22 (mk_ 16 0x1) ?_
         refine p_ 1 23 (mk_ 16 0x3) ?_
         refine p_ 2 24 (mk_ 16 0x7) ?_
         refine u_ 3 25 (mk_ 16 0xf) ?_
         refine u_ 4 26 (mk_ 16 0x1f) ?_
         refine u_ 5 27 (mk_ 16 0x3f) ?_
         refine u_ 6 28 (mk_ 16 0x7f) ?_
         refine u_ 7 29 (mk_ 16 0xff) ?_
         refine u_ 8 30 (mk_ 16 0x1ff) ?_
         refine u_ 9 31 (mk_ 16 0x3ff) ?_
         refine u_ 10 32 (mk_ 16 0x7ff) ?_
         refine u_ 11 33 (mk_ 16 0xfff) ?_
         refine u_ 12 34 (mk_ 16 0x1fff) ?_
         refine u_ 13 35 (mk_ 16 0x3fff) ?_
         refine u_ 14 36 (mk_ 16 0x7fff) ?_
         refine p_ 15 37 (mk_ 16 0xffff) ?_
         refine done_ (done_of HT_.out (by kernel_rfl)) ?_
         try go_wp2
         (try simp only [← hl3_2])
         go_roundg k2
         case measure => have := HK1.out; have := HK2.out; omega
         case rel => exact ⟨(x3_2), (wrap64 (x4_1 + 1)), zq29_3, H', ⟨by have := HK1.out; have := HK2.out; omega⟩, ⟨by (try simp only [hl3_2]); (with_reducible repeat (first | apply Kd.R_alloc | apply Kd.R_drewN | apply Kd.R_drew)); exact HO_3.out⟩, ⟨by repeat (first | (with_reducible first | exact HB.out | apply bA | apply pB | apply bW) | exact HB.out)⟩⟩
     ·rw [if_neg c4] at H
      exact absurd H (by simp)
    ·rw [if_neg c3] at H
     exact absurd H (by simp)
   ·rw [if_neg c2] at H
    have c2b0 : decide (x4_1 < (l0.length : Int)) = false := decide_eq_false c2
    clear c2
    obtain rfl := sI H
    go_wp2
    go_ret
    exact ⟨_, by first | rfl | (simp [errW_none, errW_some] <;> rfl) | (simp [*, errW_none, errW_some] <;> rfl), by (with_reducible repeat (first | apply Kd.R_alloc | apply Kd.R_drewN | apply Kd.R_drew)); exact HO_3.out, by repeat (first | (with_reducible first | exact HB.out | apply bA | apply pB | apply bW) | exact HB.out)⟩
theorem korder_raw (s : ByteArray) (m : Int) (A : Option Addr) (n c : Nat) (t : ByteArray) (m' : Int) (A' : Option Addr) (n' c' : Nat) (r : Int) (W : World) (hr : cmpB s t = r) :
  Calls Try.prog 87 #[.agg #[.string s, .int .i64 m, .slice A n c], .agg #[.string t, .int .i64 m', .slice A' n' c']] W fun e w' => e = .returned (.int .i64 r) ∧ Below W.heap.size W w' := by
 have hu := Try.underlying100
 have hc := fun (W : World) => id_Compare.calls s t r W (by rw [← hr]; rfl)
 have HC := aK hc
 clear hc hr
 have HB := aK (bA (bA (Below.refl W.heap.size W) (.cells #[.string s, .int .i64 m, .slice A n c] 100)) (.cells #[.string t, .int .i64 m', .slice A' n' c'] 100))
 have BK0 := aK (blk_alloc (blk_new W (.cells #[.string s, .int .i64 m, .slice A n c] 100)) (.cells #[.string t, .int .i64 m', .slice A' n' c'] 100))
 have BK1 := aK (blk_new (W.alloc (.cells #[.string s, .int .i64 m, .slice A n c] 100)) (.cells #[.string t, .int .i64 m', .slice A' n' c'] 100))
 have e : (W.alloc (.cells #[.string s, .int .i64 m, .slice A n c] 100)).heap.size = W.heap.size + 1 := Array.size_push _
 rw [e] at BK1
 clear e
 go_enter Try.func87, Try.ntmps87
 go_upto_region 1 with fail
 generalize (W.alloc _).alloc _ = w1 at BK0 BK1 HB ⊢
 have hc0 : w1.cell? ⟨W.heap.size, 0, none⟩ = some (.string s) := (bC BK0.out 0).trans rfl
 have hc1 : w1.cell? ⟨W.heap.size + 1, 0, none⟩ = some (.string t) := (bC BK1.out 0).trans rfl
 go_wp2_with fail
 refine (HC.out _).mono ?_
 rintro e w' ⟨rfl, hb⟩
 have HB1 := aK (bS HB.out hb.below)
 clear hb
 go_wp2_with fail
 go_ret
 exact ⟨rfl, HB1.out⟩
theorem matf_bsearch (A0 : Option Addr) (c0 : Nat) (l0 : List RW) (a1 : ByteArray) (w : World) (hr0 : Kd.C kRW w A0 l0.length l0) (hlim : l0.length ≤ 140737488355328) :
  Calls Try.prog 86 #[.slice A0 l0.length c0, .agg #[.string a1, .int .i64 0, .slice none 0 0], .func (.func 87) #[] #[]] w fun e w' => e = .returned (.tuple #[.int .i64 (bsN (fun i => cmpB (l0.getD i zRW).f0 a1) l0.length : Nat), .bool (bsB (fun i => cmpB (l0.getD i zRW).f0 a1) l0.length)]) ∧ Below w.heap.size w w' := by
 have hlen := hr0.2.1
 have HR0 := aK hr0
 clear hr0
 generalize hc : (fun i => cmpB (l0.getD i zRW).f0 a1) = c
 have HCC := aK (show ∀ i, cmpB (l0.getD i zRW).f0 a1 = c i from fun i => by rw [← hc])
 clear hc
 generalize hn : l0.length = n at *
 have HR := aK (show bsN c n = bsI c (n + 1) 0 n from rfl)
 clear hn
 have HB := aK (bA (Below.refl w.heap.size w) (.cells #[.string a1, .int .i64 0, .slice none 0 0] 100))
 have BK := aK (blk_new w (.cells #[.string a1, .int .i64 0, .slice none 0 0] 100))
 have hut := Try.underlying100
 go_enter Try.func86, Try.ntmps86
 go_wp2
 go_loopw [9, 10, 11] (fun vi vj _ wr => ∃ i j fu : Nat, vi = .int .i64 i ∧ vj = .int .i64 j ∧ i ≤ j ∧ j ≤ n ∧ j - i < fu ∧ Aside0 (bsI c fu i j = bsN c n) ∧ Aside0 (Below w.heap.size w wr) ∧ Aside0 (wr.heap[w.heap.size]? = some (.cells #[.string a1, .int .i64 0, .slice none 0 0] 100 (0, 0)))) (fun vi vj _ _ => ((intOf vj).toNat - (intOf vi).toNat))
 case atStart => exact ⟨0, n, n + 1, rfl, rfl, Nat.zero_le _, Nat.le_refl _, by omega, ⟨HR.out.symm⟩, HB, BK⟩
 case round =>
  clear HB BK
  obtain ⟨i, j, fu, rfl, rfl, hij, hjn, hfu, HI, HB, BK⟩ := hrel
  by_cases hlt : i < j
  ·obtain ⟨ad, hA, hx0, hx1, hx2⟩ := at_RW HR0.out (((i : Int) + (j : Int)) / 2) (by omega) (by omega)
   obtain rfl := hA
   have hw0 := hx0; have hw1 := hx1; have hw2 := hx2; replace hx2 := pc_ HB hx2; replace hx0 := pc_ HB hx0; replace hx1 := pc_ HB hx1
   have hm : (((i : Int) + (j : Int)) / 2).toNat = (i + j) / 2 := by omega
   have e2 : cmpB (l0.getD (((i : Int) + (j : Int)) / 2).toNat zRW).f0 a1 = c ((i + j) / 2) := by rw [hm]; exact HCC.out _
   have pm := eT (show (0 : Int) ≤ ((i : Int) + (j : Int)) / 2 by omega)
   have qm := eT (show ((i : Int) + (j : Int)) / 2 < (n : Int) by omega)
   clear hm
   have hub : bsI c (fu - 1 + 1) i j = if c ((i + j) / 2) < 0 then bsI c (fu - 1) ((i + j) / 2 + 1) j else bsI c (fu - 1) i ((i + j) / 2) := by
    simp only [bsI]; rw [if_pos hlt]
   have HU := aK hub
   have hcalls := fun W => korder_raw (rd_RW l0 (((i : Int) + (j : Int)) / 2)).f0 (rd_RW l0 (((i : Int) + (j : Int)) / 2)).u (rd_RW l0 (((i : Int) + (j : Int)) / 2)).A (rd_RW l0 (((i : Int) + (j : Int)) / 2)).n (rd_RW l0 (((i : Int) + (j : Int)) / 2)).c a1 0 none 0 0 (c ((i + j) / 2)) W e2
   clear hub e2
   have HK := aK hcalls
   clear hcalls
   have hfu1 : fu - 1 + 1 = fu := by omega
   have HF := aK hfu1
   clear hfu1
   by_cases hneg : c ((i + j) / 2) < 0
   ·have HN := aK hneg
    have hdn : decide (c ((i + j) / 2) < 0) = true := dT hneg
    generalize hq : c ((i + j) / 2) = q at hdn HK hneg
    have HQ := aK hq
    clear hq
    go_wp2_with fail
    refine start_ (n := 8) (S := fun w' => w'.cell? (ad.add ((((i : Int) + (j : Int)) / 2).toNat * 3)) = some (.string (rd_RW l0 (((i : Int) + (j : Int)) / 2)).f0) ∧ w'.cell? ⟨(ad.add ((((i : Int) + (j : Int)) / 2).toNat * 3)).block, (ad.add ((((i : Int) + (j : Int)) / 2).toNat * 3)).off + 1, none⟩ = some (.int .i64 (rd_RW l0 (((i : Int) + (j : Int)) / 2)).u) ∧ w'.cell? ⟨(ad.add ((((i : Int) + (j : Int)) / 2).toNat * 3)).block, (ad.add ((((i : Int) + (j : Int)) / 2).toNat * 3)).off + 2, none⟩ = some (.slice (rd_RW l0 (((i : Int) + (j : Int)) / 2)).A (rd_RW l0 (((i : Int) + (j : Int)) / 2)).n (rd_RW l0 (((i : Int) + (j : Int)) / 2)).c) ∧ w'.cell? ⟨w.heap.size, 0, none⟩ = some (.string a1) ∧ w'.cell? ⟨w.heap.size, 1, none⟩ = some (.int .i64 0) ∧ w'.cell? ⟨w.heap.size, 2, none⟩ = some (.slice none 0 0)) (ds := []) #[false, false, false, false, false, false, false, false] (by kernel_rfl) rfl rfl ⟨hx0, hx1, hx2, (bC (blk_drew BK.out) 0).trans rfl, (bC (blk_drew BK.out) 1).trans rfl, (bC (blk_drew BK.out) 2).trans rfl⟩ (fun hHeld => ?_)
    refine p_ 0 24 (mk_ 8 0x1) ?_
    refine p_ 1 25 (mk_ 8 0x3) ?_
    refine p_ 2 26 (mk_ 8 0x7) ?_
    refine p_ 3 27 (mk_ 8 0xf) ?_
    refine t_ 4 28 (mk_ 8 0x1f) hHeld ?_
    refine t_ 5 29 (mk_ 8 0x3f) hHeld ?_
    refine one_ (i := 6) (N := some 30) #[true, true, true, true, true, true, true, false] rfl rfl (by kernel_rfl) (by decide) (fun K hK => ?_)
    refine goesV_ Try.func87 (by kernel_rfl) rfl #[.agg #[.string (rd_RW l0 (((i : Int) + (j : Int)) / 2)).f0, .int .i64 (rd_RW l0 (((i : Int) + (j : Int)) / 2)).u, .slice (rd_RW l0 (((i : Int) + (j : Int)) / 2)).A (rd_RW l0 (((i : Int) + (j : Int)) / 2)).n (rd_RW l0 (((i : Int) + (j : Int)) / 2)).c], .agg #[.string a1, .int .i64 0, .slice none 0 0]] (by rfl) rfl rfl rfl (by (try simp only [List.map_toArray, List.map_cons, List.map_nil]); first | done | rfl) ?_
    refine (HK.out _).mono ?_
    rintro e w' ⟨rfl, hb1⟩
    refine ⟨_, rfl, ?_⟩
    have HB1 := aK (bS (bW HB.out) hb1)
    have BK1 := aK (bB (blk_drew BK.out) hb1)
    clear hb1
    refine hK.out _ _ ⟨pc_ HB1 hw0, pc_ HB1 hw1, pc_ HB1 hw2, (bC BK1.out 0).trans rfl, (bC BK1.out 1).trans rfl, (bC BK1.out 2).trans rfl⟩ (fun hHeld => ?_)
    clear hK K
    refine norm_ (a' := ?_) ?_ ?_
    rotate_left
    ·show Act.put _ (some 30) _ = _
     simp only [Act.put, lA, lB, lC, i64_w, i32_w]
     rfl
    refine p_ 7 31 (mk_ 8 0xff) ?_
    refine done_ (by kernel_rfl) ?_
    go_wp2_with fail
    go_roundw
    case rel => exact ⟨(i + j) / 2 + 1, j, fu - 1, by go_num, rfl, by omega, hjn, by omega, ⟨by have := HU.out; rw [HF.out, HI.out, if_pos HN.out] at this; exact this.symm⟩, HB1, BK1⟩
    case measure => simp [intOf]; omega
   ·have HN := aK hneg
    have hdn : decide (c ((i + j) / 2) < 0) = false := decide_eq_false hneg
    generalize hq : c ((i + j) / 2) = q at hdn HK hneg
    have HQ := aK hq
    clear hq
    go_wp2_with fail
    refine start_ (n := 8) (S := fun w' => w'.cell? (ad.add ((((i : Int) + (j : Int)) / 2).toNat * 3)) = some (.string (rd_RW l0 (((i : Int) + (j : Int)) / 2)).f0) ∧ w'.cell? ⟨(ad.add ((((i : Int) + (j : Int)) / 2).toNat * 3)).block, (ad.add ((((i : Int) + (j : Int)) / 2).toNat * 3)).off + 1, none⟩ = some (.int .i64 (rd_RW l0 (((i : Int) + (j : Int)) / 2)).u) ∧ w'.cell? ⟨(ad.add ((((i : Int) + (j : Int)) / 2).toNat * 3)).block, (ad.add ((((i : Int) + (j : Int)) / 2).toNat * 3)).off + 2, none⟩ = some (.slice (rd_RW l0 (((i : Int) + (j : Int)) / 2)).A (rd_RW l0 (((i : Int) + (j : Int)) / 2)).n (rd_RW l0 (((i : Int) + (j : Int)) / 2)).c) ∧ w'.cell? ⟨w.heap.size, 0, none⟩ = some (.string a1) ∧ w'.cell? ⟨w.heap.size, 1, none⟩ = some (.int .i64 0) ∧ w'.cell? ⟨w.heap.size, 2, none⟩ = some (.slice none 0 0)) (ds := []) #[false, false, false, false, false, false, false, false] (by kernel_rfl) rfl rfl ⟨hx0, hx1, hx2, (bC (blk_drew BK.out) 0).trans rfl, (bC (blk_drew BK.out) 1).trans rfl, (bC (blk_drew BK.out) 2).trans rfl⟩ (fun hHeld => ?_)
    refine p_ 0 24 (mk_ 8 0x1) ?_
    refine p_ 1 25 (mk_ 8 0x3) ?_
    refine p_ 2 26 (mk_ 8 0x7) ?_
    refine p_ 3 27 (mk_ 8 0xf) ?_
    refine t_ 4 28 (mk_ 8 0x1f) hHeld ?_
    refine t_ 5 29 (mk_ 8 0x3f) hHeld ?_
    refine one_ (i := 6) (N := some 30) #[true, true, true, true, true, true, true, false] rfl rfl (by kernel_rfl) (by decide) (fun K hK => ?_)
    refine goesV_ Try.func87 (by kernel_rfl) rfl #[.agg #[.string (rd_RW l0 (((i : Int) + (j : Int)) / 2)).f0, .int .i64 (rd_RW l0 (((i : Int) + (j : Int)) / 2)).u, .slice (rd_RW l0 (((i : Int) + (j : Int)) / 2)).A (rd_RW l0 (((i : Int) + (j : Int)) / 2)).n (rd_RW l0 (((i : Int) + (j : Int)) / 2)).c], .agg #[.string a1, .int .i64 0, .slice none 0 0]] (by rfl) rfl rfl rfl (by (try simp only [List.map_toArray, List.map_cons, List.map_nil]); first | done | rfl) ?_
    refine (HK.out _).mono ?_
    rintro e w' ⟨rfl, hb1⟩
    refine ⟨_, rfl, ?_⟩
    have HB1 := aK (bS (bW HB.out) hb1)
    have BK1 := aK (bB (blk_drew BK.out) hb1)
    clear hb1
    refine hK.out _ _ ⟨pc_ HB1 hw0, pc_ HB1 hw1, pc_ HB1 hw2, (bC BK1.out 0).trans rfl, (bC BK1.out 1).trans rfl, (bC BK1.out 2).trans rfl⟩ (fun hHeld => ?_)
    clear hK K
    refine norm_ (a' := ?_) ?_ ?_
    rotate_left
    ·show Act.put _ (some 30) _ = _
     simp only [Act.put, lA, lB, lC, i64_w, i32_w]
     rfl
    refine p_ 7 31 (mk_ 8 0xff) ?_
    refine done_ (by kernel_rfl) ?_
    go_wp2_with fail
    go_roundw
    case rel => exact ⟨i, (i + j) / 2, fu - 1, rfl, by go_num, by omega, by omega, by omega, ⟨by have := HU.out; rw [HF.out, HI.out, if_neg (by have := HN.out; omega)] at this; exact this.symm⟩, HB1, BK1⟩
    case measure => simp [intOf]; omega
  ·have hres : bsN c n = i := by
    rw [← HI.out]
    obtain ⟨f, rfl⟩ : ∃ f, fu = f + 1 := ⟨fu - 1, by omega⟩
    simp only [bsI]; rw [if_neg hlt]
   have HRS := aK hres
   clear hres
   have hge : decide ((i : Int) < (j : Int)) = false := by simp; omega
   by_cases hin : i < n
   ·obtain ⟨ad, hA, hx0, hx1, hx2⟩ := at_RW HR0.out (i : Int) (by omega) (by omega)
    obtain rfl := hA
    have pm := eT (show (0 : Int) ≤ (i : Int) by omega)
    have qm := eT (show (i : Int) < (n : Int) by omega)
    have hw0 := hx0; have hw1 := hx1; have hw2 := hx2; replace hx2 := pc_ HB hx2; replace hx0 := pc_ HB hx0; replace hx1 := pc_ HB hx1
    have hcalls := fun W => korder_raw (rd_RW l0 (i : Int)).f0 (rd_RW l0 (i : Int)).u (rd_RW l0 (i : Int)).A (rd_RW l0 (i : Int)).n (rd_RW l0 (i : Int)).c a1 0 none 0 0 (c i) W (HCC.out i)
    have HK := aK hcalls
    clear hcalls
    have hbb : bsB c n = decide (c i = 0) := by unfold bsB; rw [HRS.out, dT hin, Bool.true_and]
    have HBB := aK hbb
    clear hbb
    have hin2 : decide ((i : Int) < (n : Int)) = true := by simp; omega
    generalize hq : c i = q at HK HBB
    have HQ := aK hq
    clear hq
    go_wp2_with fail
    refine start_ (n := 16) (S := fun w' => w'.cell? (ad.add (i * 3)) = some (.string (rd_RW l0 (i : Int)).f0) ∧ w'.cell? ⟨(ad.add (i * 3)).block, (ad.add (i * 3)).off + 1, none⟩ = some (.int .i64 (rd_RW l0 (i : Int)).u) ∧ w'.cell? ⟨(ad.add (i * 3)).block, (ad.add (i * 3)).off + 2, none⟩ = some (.slice (rd_RW l0 (i : Int)).A (rd_RW l0 (i : Int)).n (rd_RW l0 (i : Int)).c) ∧ w'.cell? ⟨w.heap.size, 0, none⟩ = some (.string a1) ∧ w'.cell? ⟨w.heap.size, 1, none⟩ = some (.int .i64 0) ∧ w'.cell? ⟨w.heap.size, 2, none⟩ = some (.slice none 0 0)) (ds := []) #[false, false, false, false, false, false, false, false, false, false, false, false, false, false, false, false] (by kernel_rfl) rfl rfl ⟨hx0, hx1, hx2, (bC (blk_drew BK.out) 0).trans rfl, (bC (blk_drew BK.out) 1).trans rfl, (bC (blk_drew BK.out) 2).trans rfl⟩ (fun hHeld => ?_)
    refine p_ 0 35 (mk_ 16 0x1) ?_
    refine p_ 1 36 (mk_ 16 0x3) ?_
    refine p_ 2 37 (mk_ 16 0x7) ?_
    refine p_ 3 38 (mk_ 16 0xf) ?_
    refine p_ 4 39 (mk_ 16 0x1f) ?_
    refine p_ 5 40 (mk_ 16 0x3f) ?_
    refine p_ 6 41 (mk_ 16 0x7f) ?_
    refine p_ 7 42 (mk_ 16 0xff) ?_
    refine p_ 8 43 (mk_ 16 0x1ff) ?_
    refine t_ 9 44 (mk_ 16 0x3ff) hHeld ?_
    refine t_ 10 45 (mk_ 16 0x7ff) hHeld ?_
    refine one_ (i := 11) (N := some 46) #[true, true, true, true, true, true, true, true, true, true, true, true, false, false, false, false] rfl rfl (by kernel_rfl) (by decide) (fun K hK => ?_)
    refine goesV_ Try.func87 (by kernel_rfl) rfl #[.agg #[.string (rd_RW l0 (i : Int)).f0, .int .i64 (rd_RW l0 (i : Int)).u, .slice (rd_RW l0 (i : Int)).A (rd_RW l0 (i : Int)).n (rd_RW l0 (i : Int)).c], .agg #[.string a1, .int .i64 0, .slice none 0 0]] (by rfl) rfl rfl rfl (by (try simp only [List.map_toArray, List.map_cons, List.map_nil]); first | done | rfl) ?_
    refine (HK.out _).mono ?_
    rintro e w' ⟨rfl, hb1⟩
    refine ⟨_, rfl, ?_⟩
    have HB1 := aK (bS (bW HB.out) hb1)
    have BK1 := aK (bB (blk_drew BK.out) hb1)
    clear hb1
    refine hK.out _ _ ⟨pc_ HB1 hw0, pc_ HB1 hw1, pc_ HB1 hw2, (bC BK1.out 0).trans rfl, (bC BK1.out 1).trans rfl, (bC BK1.out 2).trans rfl⟩ (fun hHeld => ?_)
    clear hK K
    refine norm_ (a' := ?_) ?_ ?_
    rotate_left
    ·show Act.put _ (some 46) _ = _
     simp only [Act.put, lA, lB, lC, i64_w, i32_w]
     rfl
    refine p_ 12 47 (mk_ 16 0x1fff) ?_
    refine p_ 13 48 (mk_ 16 0x3fff) ?_
    refine p_ 14 6 (mk_ 16 0x7fff) ?_
    refine p_ 15 7 (mk_ 16 0xffff) ?_
    refine done_ (by kernel_rfl) ?_
    go_wp2_with fail
    go_ret2
    exact ⟨by rw [HRS.out, HBB.out]; rfl, HB1.out⟩
   ·have hbb : bsB c n = false := by unfold bsB; rw [HRS.out, decide_eq_false hin, Bool.false_and]
    have HBB := aK hbb
    clear hbb
    have hin2 : decide ((i : Int) < (n : Int)) = false := by simp; omega
    go_wp2_with fail
    go_quiet (fail)
    try go_wp2
    go_ret2
    exact ⟨by rw [HRS.out, HBB.out]; rfl, pB HB.out _⟩
theorem know_find.raw (A0 : Option Addr) (c0 : Nat) (l0 : List RW) (a1 : ByteArray) (w : World) (hr0 : Kd.C kRW w A0 l0.length l0) (hlim : l0.length < 1000000000) :
  Calls Try.prog 74 #[.slice A0 l0.length c0, .string a1] w fun e w' => e = .returned (.tuple #[.int .i64 (bsN (fun i => cmpB (l0.getD i zRW).f0 a1) l0.length : Nat), .bool (bsB (fun i => cmpB (l0.getD i zRW).f0 a1) l0.length)]) ∧ Below w.heap.size w w' := by
 have HB := aK (Below.refl w.heap.size w)
 have hc := fun (W : World) (hW : Below w.heap.size w W) => matf_bsearch A0 c0 l0 a1 W (cB hr0 hW) (by omega)
 generalize ((bsN (fun i => cmpB (l0.getD i zRW).f0 a1) l0.length : Nat) : Int) = r1 at hc ⊢
 generalize bsB (fun i => cmpB (l0.getD i zRW).f0 a1) l0.length = r2 at hc ⊢
 have HC := aK hc
 clear hc hlim hr0
 have hut := Try.underlying100
 go_enter Try.func74, Try.ntmps74
 go_wp2_with fail
 refine (HC.out _ (by repeat (first | (with_reducible first | exact HB.out | apply bA | apply pB | apply bW) | exact HB.out))).mono ?_
 rintro e w' ⟨rfl, hb⟩
 have HB1 := aK (bS HB.out hb)
 clear hb
 go_wp2_with fail
 go_ret2
 exact ⟨rfl, HB1.out⟩
theorem lead_m : LeadK k100 (Kd.int .i64) S100.f0 (fun x => x.f1.f0) (fun x => x.f1.f1) := ⟨rfl, (Kd.heap_int .i64), fun h => k100_open h, fun h1 h2 => k100_mk _ _ h1 h2⟩
def mN (l : List S100) (a : ByteArray) : Nat := bsN (fun i => cmpB (l.getD i z100).f0 a) l.length
def mB (l : List S100) (a : ByteArray) : Bool := bsB (fun i => cmpB (l.getD i z100).f0 a) l.length
theorem mfind_raw (A0 : Option Addr) (c0 : Nat) (rs : List RW) (l0 : List S100) (a1 : ByteArray) (w : World) (ok : Nat → Prop) (hr0 : Kd.C kRW w A0 l0.length rs) (hI : INs (Kd.int .i64) S100.f0 (fun x => x.f1.f0) (fun x => x.f1.f1) w ok rs l0) (hlim : l0.length < 1000000000) :
  Calls Try.prog 74 #[.slice A0 l0.length c0, .string a1] w fun e w' => e = .returned (.tuple #[.int .i64 (mN l0 a1 : Nat), .bool (mB l0 a1)]) ∧ Below w.heap.size w w' := by
 have hl := F2.len hI
 have h := know_find.raw A0 c0 rs a1 w (by rw [hl]; exact hr0) (by omega)
 have hf : (fun i => cmpB (rs.getD i zRW).f0 a1) = fun i => cmpB (l0.getD i z100).f0 a1 := funext fun i => by rw [INs.f0 hI z100 rfl]
 rw [hf, hl] at h
 exact h
theorem mfind (A0 : Option Addr) (c0 : Nat) (l0 : List S100) (a1 : ByteArray) (w : World) (hr0 : Kd.C k100 w A0 l0.length l0) (hlim : l0.length < 1000000000) :
  Calls Try.prog 74 #[.slice A0 l0.length c0, .string a1] w fun e w' => e = .returned (.tuple #[.int .i64 (mN l0 a1 : Nat), .bool (mB l0 a1)]) ∧ Below w.heap.size w w' := by
 obtain ⟨rs, hC, hI⟩ := lead_raw lead_m hr0
 exact mfind_raw A0 c0 rs l0 a1 w _ hC hI hlim
def know_find.f (l0 : List S100) (a1 : ByteArray) : Option (Int × Bool) := if l0.length < 1000000000 then some ((mN l0 a1 : Nat), mB l0 a1) else none
theorem know_find.calls (A0 : Option Addr) (c0 : Nat) (l0 : List S100) (a1 : ByteArray) (r1 : Int) (r2 : Bool) (w : World) (hr0 : Kd.C k100 w A0 l0.length l0) (hc0 : l0.length ≤ c0) (h : know_find.f l0 a1 = some (r1, r2)) :
  Calls Try.prog 74 #[.slice A0 l0.length c0, .string a1] w fun e w' => e = .returned (.tuple #[.int .i64 r1, .bool r2]) ∧ Below w.heap.size w w' := by
 unfold know_find.f at h
 by_cases hc : l0.length < 1000000000
 ·rw [if_pos hc] at h
  obtain ⟨e1, e2⟩ := Prod.mk.inj (sI h)
  rw [← e1, ← e2]
  exact mfind A0 c0 l0 a1 w hr0 hc
 ·rw [if_neg hc] at h; cases h
def cmp_Less_int.f (a0 : Int) (a1 : Int) : Option (Bool) := (cmp_isNaN_int.f a0).bind fun t672 => (if t672 = true then ((cmp_isNaN_int.f a1).bind fun t673 => (if t673 = true then (some (decide (a0 < a1))) else (some true))) else (some (decide (a0 < a1))))
theorem cmp_Less_int.calls (a0 : Int) (a1 : Int) (r : Bool) (w : World) (h : cmp_Less_int.f a0 a1 = some r) :
  Calls Try.prog 94 #[.int .i64 a0, .int .i64 a1] w fun e w' => e = .returned (.bool r) ∧ Drawn0 w w' := by
 have H := h
 unfold cmp_Less_int.f at H
 clear h
 replace H := bM H
 obtain ⟨t672, A30, H⟩ := H
 have A3 := aK A30
 clear A30
 by_cases c4 : t672 = true
 ·subst c4
  have H1 : ((cmp_isNaN_int.f a1).bind fun t673 => (if t673 = true then (some (decide (a0 < a1))) else (some true))) = some r := by rw [if_pos rfl] at H; exact H
  clear H
  have H := H1
  clear H1
  replace H := bM H
  obtain ⟨t673, A50, H⟩ := H
  have A5 := aK A50
  clear A50
  by_cases c6 : t673 = true
  ·subst c6
   have H1 : (some (decide (a0 < a1))) = some r := by rw [if_pos rfl] at H; exact H
   clear H
   have H := H1
   clear H1
   obtain rfl := sI H
   go_enter Try.func94, Try.ntmps94
   go_wp2_with (first | ((with_reducible refine gate_callee (f := 81) rfl ?_); refine goesL_ (some 6) rfl rfl Try.func81 (by kernel_rfl) rfl #[.int .i64 a0] rfl (by (try simp only [List.map_toArray, List.map_cons, List.map_nil]); first | done | rfl | (simp only [List.length_drop, List.length_take]; rfl)) ?_; (with_reducible refine (cmp_isNaN_int.calls a0 true _ A3.out).mono ?_); rintro e w' ⟨rfl, ⟨nd, rfl⟩⟩; refine ⟨_, rfl, ?_⟩) | (go_at_call 81; (with_reducible refine (cmp_isNaN_int.calls a1 true _ A5.out).mono ?_); rintro e w' ⟨rfl, ⟨nd, rfl⟩⟩))
   go_ret
   exact ⟨by first | rfl | (simp; done) | (simp [*]; done), by repeat (first | exact Drawn0.refl _ | apply Drawn0.step)⟩
  ·replace c6 := Bool.eq_false_iff.mpr c6
   subst c6
   have H1 : (some true) = some r := by rw [if_neg (show ¬ (false = true) by decide)] at H; exact H
   clear H
   have H := H1
   clear H1
   obtain rfl := sI H
   go_enter Try.func94, Try.ntmps94
   go_wp2_with (first | ((with_reducible refine gate_callee (f := 81) rfl ?_); refine goesL_ (some 6) rfl rfl Try.func81 (by kernel_rfl) rfl #[.int .i64 a0] rfl (by (try simp only [List.map_toArray, List.map_cons, List.map_nil]); first | done | rfl | (simp only [List.length_drop, List.length_take]; rfl)) ?_; (with_reducible refine (cmp_isNaN_int.calls a0 true _ A3.out).mono ?_); rintro e w' ⟨rfl, ⟨nd, rfl⟩⟩; refine ⟨_, rfl, ?_⟩) | (go_at_call 81; (with_reducible refine (cmp_isNaN_int.calls a1 false _ A5.out).mono ?_); rintro e w' ⟨rfl, ⟨nd, rfl⟩⟩))
   go_ret
   exact ⟨by first | rfl | (simp; done) | (simp [*]; done), by repeat (first | exact Drawn0.refl _ | apply Drawn0.step)⟩
 ·replace c4 := Bool.eq_false_iff.mpr c4
  subst c4
  have H1 : (some (decide (a0 < a1))) = some r := by rw [if_neg (show ¬ (false = true) by decide)] at H; exact H
  clear H
  have H := H1
  clear H1
  obtain rfl := sI H
  go_enter Try.func94, Try.ntmps94
  go_wp2_with (first | ((with_reducible refine gate_callee (f := 81) rfl ?_); refine goesL_ (some 6) rfl rfl Try.func81 (by kernel_rfl) rfl #[.int .i64 a0] rfl (by (try simp only [List.map_toArray, List.map_cons, List.map_nil]); first | done | rfl | (simp only [List.length_drop, List.length_take]; rfl)) ?_; (with_reducible refine (cmp_isNaN_int.calls a0 false _ A3.out).mono ?_); rintro e w' ⟨rfl, ⟨nd, rfl⟩⟩; refine ⟨_, rfl, ?_⟩))
  go_ret
  exact ⟨by first | rfl | (simp; done) | (simp [*]; done), by repeat (first | exact Drawn0.refl _ | apply Drawn0.step)⟩
def slices_isNaN_int.f (a0 : Int) : Option (Bool) := some (a0 != a0)
theorem slices_isNaN_int.calls (a0 : Int) (r : Bool) (w : World) (h : slices_isNaN_int.f a0 = some r) :
  Calls Try.prog 95 #[.int .i64 a0] w fun e w' => e = .returned (.bool r) ∧ Drawn0 w w' := by
 have H : (some (a0 != a0)) = some r := h
 clear h
 obtain rfl := sI H
 go_enter Try.func95, Try.ntmps95
 go_wp2
 go_ret
 exact ⟨by first | rfl | (simp; done) | (simp [*]; done), by repeat (first | exact Drawn0.refl _ | apply Drawn0.step)⟩
end Go.Proofs.Ytgdkgobplinelaa.P
