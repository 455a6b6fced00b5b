import Derived.Test.YtgdkgobplinelaaP0
import Derived.Test.YtgdkgobplinelaaP6
import Derived.Test.YtgdkgobplinelaaP11
namespace Go.Proofs.Ytgdkgobplinelaa.P
open Go.RowKit Go.Proofs.YtgdkgobplinelaaW.PrintWords Go.Proofs.YtgdkgobplinelaaW.PrintLast Go.Proofs.YtgdkgobplinelaaW.PrintMore
set_option maxHeartbeats 8000000
set_option maxRecDepth 100000
attribute [local go_sem] run_store_complex max2_int min2_int max_two min_two max_three min_three max_four min_four
set_option linter.unusedVariables false
set_option linter.unusedSimpArgs false
theorem zq8_0 {p_ : Prop} (h_ : p_ := by rw [hg]; exact (below_size (by repeat (first | (with_reducible first | exact HB.out | apply bA | apply pB | apply bW) | exact HB.out)))) : p_ := h_
theorem zq8_1 {p_ : Prop} (h_ : p_ := by repeat (first | (with_reducible first | exact HB.out | apply bA | apply pB | apply bW | refine below_set ?_ GE159.out) | exact HB.out)) : p_ := h_
theorem zq8_2 {p_ : Prop} (h_ : p_ := by repeat (first | (with_reducible first | exact HB.out | apply bA | apply pB | apply bW) | exact HB.out)) : p_ := h_
theorem zq8_3 {p_ : Prop} (h_ : p_ := by (with_reducible repeat (first | refine blk_drewN ?_ _ | refine blk_drew ?_ | refine blk_alloc ?_ _)); exact BK159.out) : p_ := h_
theorem zq8_4 {p_ : Prop} (h_ : p_ := by (with_reducible repeat (first | apply Kd.R_alloc | apply Kd.R_drewN | apply Kd.R_drew)); exact HO_3.out) : p_ := h_
theorem zq8_5 {p_ : Prop} (h_ : p_ := by first | (with_reducible assumption) | assumption) : p_ := h_
theorem zq8_6 {p_ : Prop} (h_ : p_ := by first | rfl | (simp; done) | (simp [*]; done)) : p_ := h_
mutual
def cenotaphref08_Fix.l0 : Nat → List (S28) → List (S28) → Int → Option ((List (S28)))
 | 0, _, _, _ => none
 | k + 1, x0, x3, x4 => if x4 < (x0.length : Int) then (cenotaphref08_Fix.j1 k x0 x3 x4 (decide (x4 < 12))) else (cenotaphref08_Fix.j1 k x0 x3 x4 false)
def cenotaphref08_Fix.j1 : Nat → List (S28) → List (S28) → Int → Bool → Option ((List (S28)))
 | 0, _, _, _, _ => none
 | k + 1, x0, x3, x4, x15 => if x15 = true then (if 0 ≤ x4 then (if x4 < (x0.length : Int) then ((cenotaphref07_Fix.f k ((rd_T28 x0 x4).f0) ((rd_T28 x0 x4).f1.f0) ((rd_T28 x0 x4).f1.f1) ((rd_T28 x0 x4).f1.f2) ((rd_T28 x0 x4).f2) ((rd_T28 x0 x4).f3.f0) ((rd_T28 x0 x4).f3.f1) ((rd_T28 x0 x4).f4) ((rd_T28 x0 x4).f5)).bind fun bt150 => (cenotaphref08_Fix.l1 k x0 x3 x4 false 0 bt150.1 bt150.2.1 bt150.2.2.1 bt150.2.2.2.1 bt150.2.2.2.2.1 bt150.2.2.2.2.2.1 bt150.2.2.2.2.2.2.1 bt150.2.2.2.2.2.2.2.1 bt150.2.2.2.2.2.2.2.2)) else (none)) else (none)) else (some x3)
def cenotaphref08_Fix.l1 : Nat → List (S28) → List (S28) → Int → Bool → Int → Int → ByteArray → Int → Int → Bool → Int → Int → ByteArray → Bool → Option ((List (S28)))
 | 0, _, _, _, _, _, _, _, _, _, _, _, _, _, _ => none
 | k + 1, x0, x3, x4, x6, x7, x160000, x160001, x160002, x160003, x160004, x160005, x160006, x160007, x160008 => if x7 < (x3.length : Int) then (if x6 = true then (cenotaphref08_Fix.l1 k x0 x3 x4 true (wrap64 (x7 + 1)) x160000 x160001 x160002 x160003 x160004 x160005 x160006 x160007 x160008) else (if 0 ≤ x7 then (if ((rd_T28 x3 x7).f1.f2) = x160003 then (cenotaphref08_Fix.l1 k x0 x3 x4 (((rd_T28 x3 x7).f1.f0).toList == x160001.toList) (wrap64 (x7 + 1)) x160000 x160001 x160002 x160003 x160004 x160005 x160006 x160007 x160008) else (cenotaphref08_Fix.l1 k x0 x3 x4 false (wrap64 (x7 + 1)) x160000 x160001 x160002 x160003 x160004 x160005 x160006 x160007 x160008)) else (none))) else (if x6 = true then (cenotaphref08_Fix.l0 k x0 x3 (wrap64 (x4 + 1))) else ((cenotaphref08_Put.f k x3 x160000 x160001 x160002 x160003 x160004 x160005 x160006 x160007 x160008).bind fun bt162 => (cenotaphref08_Fix.l0 k x0 bt162.1 (wrap64 (x4 + 1)))))
end
def cenotaphref08_Fix.f (k : Nat) (l0 : List (S28)) : Option ((List (S28))) := cenotaphref08_Fix.l0 k l0 ([] : List (S28)) 0
theorem cenotaphref08_Fix.mono_l : ∀ k, (∀ y0 y1 y2, LeO (cenotaphref08_Fix.l0 k y0 y1 y2) (cenotaphref08_Fix.l0 (k + 1) y0 y1 y2)) ∧ (∀ y0 y1 y2 y3, LeO (cenotaphref08_Fix.j1 k y0 y1 y2 y3) (cenotaphref08_Fix.j1 (k + 1) y0 y1 y2 y3)) ∧ (∀ y0 y1 y2 y3 y4 y5 y6 y7 y8 y9 y10 y11 y12 y13, LeO (cenotaphref08_Fix.l1 k y0 y1 y2 y3 y4 y5 y6 y7 y8 y9 y10 y11 y12 y13) (cenotaphref08_Fix.l1 (k + 1) y0 y1 y2 y3 y4 y5 y6 y7 y8 y9 y10 y11 y12 y13))
 | 0 => ⟨fun _ _ _ r h => by simp [cenotaphref08_Fix.l0] at h, fun _ _ _ _ r h => by simp [cenotaphref08_Fix.j1] at h, fun _ _ _ _ _ _ _ _ _ _ _ _ _ _ r h => by simp [cenotaphref08_Fix.l1] at h⟩
 | k + 1 => by
  obtain ⟨ih0, ih1, ih2⟩ := cenotaphref08_Fix.mono_l k
  refine ⟨?_, ?_, ?_⟩
  ·intro y0 y1 y2
   unfold cenotaphref08_Fix.l0
   repeat' first
   | (with_reducible exact ih0 _ _ _)
   | (with_reducible exact ih1 _ _ _ _)
   | (with_reducible exact ih2 _ _ _ _ _ _ _ _ _ _ _ _ _ _)
   | (with_reducible exact cenotaphref07_Fix.mono _ _ _ _ _ _ _ _ _ _)
   | (with_reducible exact cenotaphref08_Put.mono _ _ _ _ _ _ _ _ _ _ _)
   | (with_reducible exact LeO.refl _)
   | (with_reducible exact LeO.none _)
   | (with_reducible refine LeO.ite ?_ ?_)
   | (with_reducible refine LeO.bind ?_ (fun _ => ?_))
   | exact ih0 _ _ _
   | exact ih1 _ _ _ _
   | exact ih2 _ _ _ _ _ _ _ _ _ _ _ _ _ _
   | exact cenotaphref07_Fix.mono _ _ _ _ _ _ _ _ _ _
   | exact cenotaphref08_Put.mono _ _ _ _ _ _ _ _ _ _ _
   | exact LeO.none _
   | refine LeO.ite ?_ ?_
   | refine LeO.bind ?_ (fun _ => ?_)
  ·intro y0 y1 y2 y3
   unfold cenotaphref08_Fix.j1
   repeat' first
   | (with_reducible exact ih0 _ _ _)
   | (with_reducible exact ih1 _ _ _ _)
   | (with_reducible exact ih2 _ _ _ _ _ _ _ _ _ _ _ _ _ _)
   | (with_reducible exact cenotaphref07_Fix.mono _ _ _ _ _ _ _ _ _ _)
   | (with_reducible exact cenotaphref08_Put.mono _ _ _ _ _ _ _ _ _ _ _)
   | (with_reducible exact LeO.refl _)
   | (with_reducible exact LeO.none _)
   | (with_reducible refine LeO.ite ?_ ?_)
   | (with_reducible refine LeO.bind ?_ (fun _ => ?_))
   | exact ih0 _ _ _
   | exact ih1 _ _ _ _
   | exact ih2 _ _ _ _ _ _ _ _ _ _ _ _ _ _
   | exact cenotaphref07_Fix.mono _ _ _ _ _ _ _ _ _ _
   | exact cenotaphref08_Put.mono _ _ _ _ _ _ _ _ _ _ _
   | exact LeO.none _
   | refine LeO.ite ?_ ?_
   | refine LeO.bind ?_ (fun _ => ?_)
  ·intro y0 y1 y2 y3 y4 y5 y6 y7 y8 y9 y10 y11 y12 y13
   unfold cenotaphref08_Fix.l1
   repeat' first
   | (with_reducible exact ih0 _ _ _)
   | (with_reducible exact ih1 _ _ _ _)
   | (with_reducible exact ih2 _ _ _ _ _ _ _ _ _ _ _ _ _ _)
   | (with_reducible exact cenotaphref07_Fix.mono _ _ _ _ _ _ _ _ _ _)
   | (with_reducible exact cenotaphref08_Put.mono _ _ _ _ _ _ _ _ _ _ _)
   | (with_reducible exact LeO.refl _)
   | (with_reducible exact LeO.none _)
   | (with_reducible refine LeO.ite ?_ ?_)
   | (with_reducible refine LeO.bind ?_ (fun _ => ?_))
   | exact ih0 _ _ _
   | exact ih1 _ _ _ _
   | exact ih2 _ _ _ _ _ _ _ _ _ _ _ _ _ _
   | exact cenotaphref07_Fix.mono _ _ _ _ _ _ _ _ _ _
   | exact cenotaphref08_Put.mono _ _ _ _ _ _ _ _ _ _ _
   | exact LeO.none _
   | refine LeO.ite ?_ ?_
   | refine LeO.bind ?_ (fun _ => ?_)
theorem cenotaphref08_Fix.mono : ∀ a0 k, LeO (cenotaphref08_Fix.f k a0) (cenotaphref08_Fix.f (k + 1) a0) := by
 intro a0 k
 obtain ⟨ih0, ih1, ih2⟩ := cenotaphref08_Fix.mono_l k
 unfold cenotaphref08_Fix.f
 repeat' first
   | (with_reducible exact ih0 _ _ _)
   | (with_reducible exact ih1 _ _ _ _)
   | (with_reducible exact ih2 _ _ _ _ _ _ _ _ _ _ _ _ _ _)
   | (with_reducible exact cenotaphref07_Fix.mono _ _ _ _ _ _ _ _ _ _)
   | (with_reducible exact cenotaphref08_Put.mono _ _ _ _ _ _ _ _ _ _ _)
   | (with_reducible exact LeO.refl _)
   | (with_reducible exact LeO.none _)
   | (with_reducible refine LeO.ite ?_ ?_)
   | (with_reducible refine LeO.bind ?_ (fun _ => ?_))
   | exact ih0 _ _ _
   | exact ih1 _ _ _ _
   | exact ih2 _ _ _ _ _ _ _ _ _ _ _ _ _ _
   | exact cenotaphref07_Fix.mono _ _ _ _ _ _ _ _ _ _
   | exact cenotaphref08_Put.mono _ _ _ _ _ _ _ _ _ _ _
   | exact LeO.none _
   | refine LeO.ite ?_ ?_
   | refine LeO.bind ?_ (fun _ => ?_)
theorem cenotaphref08_Fix.calls (k : Nat) (A0 : Option Addr) (c0 : Nat) (l0 : List (S28)) (r : List (S28)) (w : World) (hr0 : Kd.C k28 w A0 l0.length l0) (hc0 : l0.length ≤ c0) (h : cenotaphref08_Fix.f k l0 = some r) :
  Calls Try.prog 8 #[.slice A0 l0.length c0] w fun e w' => ∃ v0_ : Value, e = .returned (v0_) ∧ Kd.R k28 28 w' w.heap.size (fun _ => True) v0_ r ∧ Below w.heap.size w w' := by
 have hu28 := Try.underlying28
 have HR0 := aK hr0
 have HC0 := aK hc0
 clear hr0 hc0
 have HB := aK (Below.refl w.heap.size w)
 have H : (cenotaphref08_Fix.l0 k l0 ([] : List (S28)) 0) = some r := h
 clear h
 have H' := aK H
 clear H
 go_enter Try.func8, Try.ntmps8
 go_wp2
 repeat (go_quiet (fail); try go_wp2)
 go_loopg [3, 4] k (fun kq v3 v4 w' => ∃ (x3_1 : List (S28)) (x4_1 : Int), v4 = .int .i64 x4_1 ∧ Aside0 (cenotaphref08_Fix.l0 kq l0 x3_1 x4_1 = some r) ∧ Aside0 (kq ≤ k) ∧ Aside0 (Kd.R k28 28 w' w.heap.size (fun _ => True) v3 x3_1) ∧ Aside0 (Below w.heap.size w w'))
 case atStart => exact ⟨(([] : List (S28))), (0), zq8_6, H', ⟨Nat.le_refl _⟩, ⟨by first | exact Kd.R_nil _ _ _ _ _ | exact Kd.N_nil _ _ _ _ _ | exact Kd.V_nil _ _ _ _ _ | exact Kd.Q_nil _ _ _ _ _ | exact Kd.S_nil _ _ _ _ _⟩, ⟨by repeat (first | (with_reducible first | exact HB.out | apply bA | apply pB | apply bW) | exact HB.out)⟩⟩
 case round =>
  clear H'
  obtain ⟨x3_1, x4_1, rfl, HA, HK1, HO_3, HB⟩ := hrel
  cases gk with
  | zero => exact absurd HA.out (by simp [cenotaphref08_Fix.l0])
  | succ k1 =>
   have H := HA.out
   clear HA
   simp only [cenotaphref08_Fix.l0] at H
   have HC2 := aK H
   clear H
   go_upto_region 3 with (fail)
   repeat (go_quiet (fail); go_upto_region 3 with (fail))
   go_cut [15] (fun v15 wc => ∃ (kq : Nat) (x15_1 : Bool), v15 = .bool x15_1 ∧ Aside0 (cenotaphref08_Fix.j1 kq l0 x3_1 x4_1 x15_1 = some r) ∧ Aside0 (kq ≤ k1) ∧ Aside0 (Kd.R k28 28 wc w.heap.size (fun _ => True) u3 x3_1) ∧ Aside0 (Below w.heap.size w wc))
   case first =>
    have H := HC2.out
    clear HC2
    by_cases c3 : x4_1 < (l0.length : Int)
    ·rw [if_pos c3] at H
     have c3b0 : decide (x4_1 < (l0.length : Int)) = true := dT c3
     clear c3
     (first | rw [c3b0] | (simp only [i64_w, i32_w]; rw [c3b0]) | skip)
     have H' := aK H
     clear H
     go_wp2
     repeat (go_quiet (fail); try go_wp2)
     go_meet
     case rel => exact ⟨_, (decide (x4_1 < 12)), zq8_6, H', ⟨by have := HK1.out; first | omega | exact Nat.le_refl _⟩, ⟨by (with_reducible repeat (first | apply Kd.R_alloc | apply Kd.R_drewN | apply Kd.R_drew)); exact HO_3.out⟩, ⟨by repeat (first | (with_reducible first | exact HB.out | apply bA | apply pB | apply bW) | exact HB.out)⟩⟩
    ·rw [if_neg c3] at H
     have c3b0 : decide (x4_1 < (l0.length : Int)) = false := decide_eq_false c3
     clear c3
     (first | rw [c3b0] | (simp only [i64_w, i32_w]; rw [c3b0]) | skip)
     have H' := aK H
     clear H
     go_wp2
     repeat (go_quiet (fail); try go_wp2)
     go_meet
     case rel => exact ⟨_, (false), zq8_6, H', ⟨by have := HK1.out; first | omega | exact Nat.le_refl _⟩, ⟨by (with_reducible repeat (first | apply Kd.R_alloc | apply Kd.R_drewN | apply Kd.R_drew)); exact HO_3.out⟩, ⟨by repeat (first | (with_reducible first | exact HB.out | apply bA | apply pB | apply bW) | exact HB.out)⟩⟩
   case rest =>
    clear HC2
    try clear p2
    try clear c3
    try clear c3b0
    obtain ⟨kq, x15_1, rfl, HA, HJ1, HO_3, HB⟩ := hcut
    cases kq with
    | zero => exact absurd HA.out (by simp [cenotaphref08_Fix.j1])
    | succ kj1 =>
     have H := HA.out
     clear HA
     simp only [cenotaphref08_Fix.j1] at H
     by_cases c4 : x15_1 = true
     ·subst c4
      have H1 : (if 0 ≤ x4_1 then (if x4_1 < (l0.length : Int) then ((cenotaphref07_Fix.f kj1 ((rd_T28 l0 x4_1).f0) ((rd_T28 l0 x4_1).f1.f0) ((rd_T28 l0 x4_1).f1.f1) ((rd_T28 l0 x4_1).f1.f2) ((rd_T28 l0 x4_1).f2) ((rd_T28 l0 x4_1).f3.f0) ((rd_T28 l0 x4_1).f3.f1) ((rd_T28 l0 x4_1).f4) ((rd_T28 l0 x4_1).f5)).bind fun bt150 => (cenotaphref08_Fix.l1 kj1 l0 x3_1 x4_1 false 0 bt150.1 bt150.2.1 bt150.2.2.1 bt150.2.2.2.1 bt150.2.2.2.2.1 bt150.2.2.2.2.2.1 bt150.2.2.2.2.2.2.1 bt150.2.2.2.2.2.2.2.1 bt150.2.2.2.2.2.2.2.2)) else (none)) else (none)) = some r := by rw [if_pos rfl] at H; exact H
      clear H
      have H := H1
      clear H1
      by_cases c5 : 0 ≤ x4_1
      ·rw [if_pos c5] at H
       have c5b0 : decide (0 ≤ x4_1) = true := dT c5
       clear c5
       by_cases c6 : x4_1 < (l0.length : Int)
       ·rw [if_pos c6] at H
        have c6b0 : decide (x4_1 < (l0.length : Int)) = true := dT c6
        clear c6
        replace H := bM H
        obtain ⟨⟨t150, t151, t152, t153, t154, t155, t156, t157, t158⟩, A70, H⟩ := H
        have A7 := aK A70
        clear A70
        have H' := aK H
        clear H
        have p149 : 0 ≤ (x4_1 : Int) := oD zq8_5
        have q149 : x4_1 < (l0.length : Int) := oD zq8_5
        obtain ⟨ad149, e149, hx149_0, hx149_1, hx149_2, hx149_3, hx149_4, hx149_5, hx149_6, hx149_7, hx149_8⟩ := at_T28 HR0.out x4_1 p149 q149
        cases e149
        replace hx149_0 := pc_ HB hx149_0
        replace hx149_1 := pc_ HB hx149_1
        replace hx149_2 := pc_ HB hx149_2
        replace hx149_3 := pc_ HB hx149_3
        replace hx149_4 := pc_ HB hx149_4
        replace hx149_5 := pc_ HB hx149_5
        replace hx149_6 := pc_ HB hx149_6
        replace hx149_7 := pc_ HB hx149_7
        replace hx149_8 := pc_ HB hx149_8
        replace p149 := eT p149
        replace q149 := eT q149
        go_wp2_with (first | (go_at_call 9; (with_reducible refine (cenotaphref07_Fix.calls kj1 ((rd_T28 l0 x4_1).f0) ((rd_T28 l0 x4_1).f1.f0) ((rd_T28 l0 x4_1).f1.f1) ((rd_T28 l0 x4_1).f1.f2) ((rd_T28 l0 x4_1).f2) ((rd_T28 l0 x4_1).f3.f0) ((rd_T28 l0 x4_1).f3.f1) ((rd_T28 l0 x4_1).f4) ((rd_T28 l0 x4_1).f5) t150 t151 t152 t153 t154 t155 t156 t157 t158 _ A7.out).mono ?_); rintro e w8 ⟨rfl, hb⟩; replace HO_3 := aK (Kd.R_below zq8_4 hb); replace HB := aK (bS zq8_2 hb); (try clear hb); (try clear hb2); (try clear hk); (try clear hi)) | ((with_reducible refine gate_dst (N := 5) rfl ?_); refine box_event ?hg (N := 5) ?hd (cs := #[.int .i64 0, .string (⟨#[]⟩ : ByteArray), .int .i64 0, .int .i64 0, .bool false, .int .i64 0, .int .i64 0, .string (⟨#[]⟩ : ByteArray), .bool false]) (t := 28) ?hr ?_; (case hd => rfl); (case hg => rfl); (case hr => first | (go_simp; done) | (go_simp; rfl)); intro gb159 hg w9 hbox hb; replace HO_3 := aK (Kd.R_below (Kd.R_elderB zq8_4 gb159 (Nat.le_of_eq hg.symm)) hb); have BK159 := aK (hbox); have GW159 := aK ((zq8_0 : w.heap.size ≤ gb159)); have GE159 := aK ((zq8_0 : w.heap.size ≤ gb159)); replace HB := aK (bS zq8_2 hb); clear hb hbox hg; have hcz10_0 : w9.cell? ⟨gb159, 0, none⟩ = some (.int .i64 0) := (bC BK159.out 0).trans rfl; have hcz10_1 : w9.cell? ⟨gb159, 1, none⟩ = some (.string (⟨#[]⟩ : ByteArray)) := (bC BK159.out 1).trans rfl; have hcz10_2 : w9.cell? ⟨gb159, 2, none⟩ = some (.int .i64 0) := (bC BK159.out 2).trans rfl; have hcz10_3 : w9.cell? ⟨gb159, 3, none⟩ = some (.int .i64 0) := (bC BK159.out 3).trans rfl; have hcz10_4 : w9.cell? ⟨gb159, 4, none⟩ = some (.bool false) := (bC BK159.out 4).trans rfl; have hcz10_5 : w9.cell? ⟨gb159, 5, none⟩ = some (.int .i64 0) := (bC BK159.out 5).trans rfl; have hcz10_6 : w9.cell? ⟨gb159, 6, none⟩ = some (.int .i64 0) := (bC BK159.out 6).trans rfl; have hcz10_7 : w9.cell? ⟨gb159, 7, none⟩ = some (.string (⟨#[]⟩ : ByteArray)) := (bC BK159.out 7).trans rfl; have hcz10_8 : w9.cell? ⟨gb159, 8, none⟩ = some (.bool false) := (bC BK159.out 8).trans rfl; have hfz10_0 := bF_ BK159.out 0; have hfz10_1 := bF_ BK159.out 1; have hfz10_2 := bF_ BK159.out 2; have hfz10_3 := bF_ BK159.out 3; have hfz10_4 := bF_ BK159.out 4; have hfz10_5 := bF_ BK159.out 5; have hfz10_6 := bF_ BK159.out 6; have hfz10_7 := bF_ BK159.out 7; have hfz10_8 := bF_ BK159.out 8))
        repeat (go_quiet (first | (go_at_call 9; (with_reducible refine (cenotaphref07_Fix.calls kj1 ((rd_T28 l0 x4_1).f0) ((rd_T28 l0 x4_1).f1.f0) ((rd_T28 l0 x4_1).f1.f1) ((rd_T28 l0 x4_1).f1.f2) ((rd_T28 l0 x4_1).f2) ((rd_T28 l0 x4_1).f3.f0) ((rd_T28 l0 x4_1).f3.f1) ((rd_T28 l0 x4_1).f4) ((rd_T28 l0 x4_1).f5) t150 t151 t152 t153 t154 t155 t156 t157 t158 _ A7.out).mono ?_); rintro e w8 ⟨rfl, hb⟩; replace HO_3 := aK (Kd.R_below zq8_4 hb); replace HB := aK (bS zq8_2 hb); (try clear hb); (try clear hb2); (try clear hk); (try clear hi)) | ((with_reducible refine gate_dst (N := 5) rfl ?_); refine box_event ?hg (N := 5) ?hd (cs := #[.int .i64 0, .string (⟨#[]⟩ : ByteArray), .int .i64 0, .int .i64 0, .bool false, .int .i64 0, .int .i64 0, .string (⟨#[]⟩ : ByteArray), .bool false]) (t := 28) ?hr ?_; (case hd => rfl); (case hg => rfl); (case hr => first | (go_simp; done) | (go_simp; rfl)); intro gb159 hg w9 hbox hb; replace HO_3 := aK (Kd.R_below (Kd.R_elderB zq8_4 gb159 (Nat.le_of_eq hg.symm)) hb); have BK159 := aK (hbox); have GW159 := aK ((zq8_0 : w.heap.size ≤ gb159)); have GE159 := aK ((zq8_0 : w.heap.size ≤ gb159)); replace HB := aK (bS zq8_2 hb); clear hb hbox hg; have hcz10_0 : w9.cell? ⟨gb159, 0, none⟩ = some (.int .i64 0) := (bC BK159.out 0).trans rfl; have hcz10_1 : w9.cell? ⟨gb159, 1, none⟩ = some (.string (⟨#[]⟩ : ByteArray)) := (bC BK159.out 1).trans rfl; have hcz10_2 : w9.cell? ⟨gb159, 2, none⟩ = some (.int .i64 0) := (bC BK159.out 2).trans rfl; have hcz10_3 : w9.cell? ⟨gb159, 3, none⟩ = some (.int .i64 0) := (bC BK159.out 3).trans rfl; have hcz10_4 : w9.cell? ⟨gb159, 4, none⟩ = some (.bool false) := (bC BK159.out 4).trans rfl; have hcz10_5 : w9.cell? ⟨gb159, 5, none⟩ = some (.int .i64 0) := (bC BK159.out 5).trans rfl; have hcz10_6 : w9.cell? ⟨gb159, 6, none⟩ = some (.int .i64 0) := (bC BK159.out 6).trans rfl; have hcz10_7 : w9.cell? ⟨gb159, 7, none⟩ = some (.string (⟨#[]⟩ : ByteArray)) := (bC BK159.out 7).trans rfl; have hcz10_8 : w9.cell? ⟨gb159, 8, none⟩ = some (.bool false) := (bC BK159.out 8).trans rfl; have hfz10_0 := bF_ BK159.out 0; have hfz10_1 := bF_ BK159.out 1; have hfz10_2 := bF_ BK159.out 2; have hfz10_3 := bF_ BK159.out 3; have hfz10_4 := bF_ BK159.out 4; have hfz10_5 := bF_ BK159.out 5; have hfz10_6 := bF_ BK159.out 6; have hfz10_7 := bF_ BK159.out 7; have hfz10_8 := bF_ BK159.out 8)); try go_wp2_with (first | (go_at_call 9; (with_reducible refine (cenotaphref07_Fix.calls kj1 ((rd_T28 l0 x4_1).f0) ((rd_T28 l0 x4_1).f1.f0) ((rd_T28 l0 x4_1).f1.f1) ((rd_T28 l0 x4_1).f1.f2) ((rd_T28 l0 x4_1).f2) ((rd_T28 l0 x4_1).f3.f0) ((rd_T28 l0 x4_1).f3.f1) ((rd_T28 l0 x4_1).f4) ((rd_T28 l0 x4_1).f5) t150 t151 t152 t153 t154 t155 t156 t157 t158 _ A7.out).mono ?_); rintro e w8 ⟨rfl, hb⟩; replace HO_3 := aK (Kd.R_below zq8_4 hb); replace HB := aK (bS zq8_2 hb); (try clear hb); (try clear hb2); (try clear hk); (try clear hi)) | ((with_reducible refine gate_dst (N := 5) rfl ?_); refine box_event ?hg (N := 5) ?hd (cs := #[.int .i64 0, .string (⟨#[]⟩ : ByteArray), .int .i64 0, .int .i64 0, .bool false, .int .i64 0, .int .i64 0, .string (⟨#[]⟩ : ByteArray), .bool false]) (t := 28) ?hr ?_; (case hd => rfl); (case hg => rfl); (case hr => first | (go_simp; done) | (go_simp; rfl)); intro gb159 hg w9 hbox hb; replace HO_3 := aK (Kd.R_below (Kd.R_elderB zq8_4 gb159 (Nat.le_of_eq hg.symm)) hb); have BK159 := aK (hbox); have GW159 := aK ((zq8_0 : w.heap.size ≤ gb159)); have GE159 := aK ((zq8_0 : w.heap.size ≤ gb159)); replace HB := aK (bS zq8_2 hb); clear hb hbox hg; have hcz10_0 : w9.cell? ⟨gb159, 0, none⟩ = some (.int .i64 0) := (bC BK159.out 0).trans rfl; have hcz10_1 : w9.cell? ⟨gb159, 1, none⟩ = some (.string (⟨#[]⟩ : ByteArray)) := (bC BK159.out 1).trans rfl; have hcz10_2 : w9.cell? ⟨gb159, 2, none⟩ = some (.int .i64 0) := (bC BK159.out 2).trans rfl; have hcz10_3 : w9.cell? ⟨gb159, 3, none⟩ = some (.int .i64 0) := (bC BK159.out 3).trans rfl; have hcz10_4 : w9.cell? ⟨gb159, 4, none⟩ = some (.bool false) := (bC BK159.out 4).trans rfl; have hcz10_5 : w9.cell? ⟨gb159, 5, none⟩ = some (.int .i64 0) := (bC BK159.out 5).trans rfl; have hcz10_6 : w9.cell? ⟨gb159, 6, none⟩ = some (.int .i64 0) := (bC BK159.out 6).trans rfl; have hcz10_7 : w9.cell? ⟨gb159, 7, none⟩ = some (.string (⟨#[]⟩ : ByteArray)) := (bC BK159.out 7).trans rfl; have hcz10_8 : w9.cell? ⟨gb159, 8, none⟩ = some (.bool false) := (bC BK159.out 8).trans rfl; have hfz10_0 := bF_ BK159.out 0; have hfz10_1 := bF_ BK159.out 1; have hfz10_2 := bF_ BK159.out 2; have hfz10_3 := bF_ BK159.out 3; have hfz10_4 := bF_ BK159.out 4; have hfz10_5 := bF_ BK159.out 5; have hfz10_6 := bF_ BK159.out 6; have hfz10_7 := bF_ BK159.out 7; have hfz10_8 := bF_ BK159.out 8)))
        go_loopg [6, 7] kj1 (fun kq v6 v7 w' => ∃ (x6_3 : Bool) (x7_3 : Int), v6 = .bool x6_3 ∧ v7 = .int .i64 x7_3 ∧ Aside0 (cenotaphref08_Fix.l1 kq l0 x3_1 x4_1 x6_3 x7_3 t150 t151 t152 t153 t154 t155 t156 t157 t158 = some r) ∧ Aside0 (kq ≤ kj1) ∧ Aside0 (Kd.R k28 28 w' w.heap.size (fun k_ => k_ ≠ gb159) u3 x3_1) ∧ Aside0 (w'.heap[gb159]? = some (.cells #[.int .i64 t150, .string t151, .int .i64 t152, .int .i64 t153, .bool t154, .int .i64 t155, .int .i64 t156, .string t157, .bool t158] 28 (0, 0))) ∧ Aside0 (Below w.heap.size w w'))
        case atStart => exact ⟨(false), (0), zq8_6, zq8_6, H', ⟨Nat.le_refl _⟩, ⟨by (with_reducible repeat (first | apply Kd.R_alloc | apply Kd.R_drewN | apply Kd.R_drew)); exact Kd.R_mono (Kd.R_far (p := ⟨gb159, 8, none⟩) (Kd.R_far (p := ⟨gb159, 7, none⟩) (Kd.R_far (p := ⟨gb159, 6, none⟩) (Kd.R_far (p := ⟨gb159, 5, none⟩) (Kd.R_far (p := ⟨gb159, 4, none⟩) (Kd.R_far (p := ⟨gb159, 3, none⟩) (Kd.R_far (p := ⟨gb159, 2, none⟩) (Kd.R_far (p := ⟨gb159, 1, none⟩) (Kd.R_far (p := ⟨gb159, 0, none⟩) (Kd.R_mono HO_3.out (fun k_ hk => (⟨hk, hk.2⟩ : _ ∧ k_ ≠ gb159))) (fun _ hk => hk.2) (.int .i64 t150)) (fun _ hk => hk.2) (.string t151)) (fun _ hk => hk.2) (.int .i64 t152)) (fun _ hk => hk.2) (.int .i64 t153)) (fun _ hk => hk.2) (.bool t154)) (fun _ hk => hk.2) (.int .i64 t155)) (fun _ hk => hk.2) (.int .i64 t156)) (fun _ hk => hk.2) (.string t157)) (fun _ hk => hk.2) (.bool t158)) (fun _ hk => hk.1.2)⟩, ⟨by (with_reducible repeat (first | refine blk_drewN ?_ _ | refine blk_drew ?_ | refine blk_alloc ?_ _)); refine blk_put (cs := #[.int .i64 t150, .string t151, .int .i64 t152, .int .i64 t153, .bool t154, .int .i64 t155, .int .i64 t156, .string t157, .bool false]) ?_ 8 _ rfl; (with_reducible repeat (first | refine blk_drewN ?_ _ | refine blk_drew ?_ | refine blk_alloc ?_ _)); refine blk_put (cs := #[.int .i64 t150, .string t151, .int .i64 t152, .int .i64 t153, .bool t154, .int .i64 t155, .int .i64 t156, .string (⟨#[]⟩ : ByteArray), .bool false]) ?_ 7 _ rfl; (with_reducible repeat (first | refine blk_drewN ?_ _ | refine blk_drew ?_ | refine blk_alloc ?_ _)); refine blk_put (cs := #[.int .i64 t150, .string t151, .int .i64 t152, .int .i64 t153, .bool t154, .int .i64 t155, .int .i64 0, .string (⟨#[]⟩ : ByteArray), .bool false]) ?_ 6 _ rfl; (with_reducible repeat (first | refine blk_drewN ?_ _ | refine blk_drew ?_ | refine blk_alloc ?_ _)); refine blk_put (cs := #[.int .i64 t150, .string t151, .int .i64 t152, .int .i64 t153, .bool t154, .int .i64 0, .int .i64 0, .string (⟨#[]⟩ : ByteArray), .bool false]) ?_ 5 _ rfl; (with_reducible repeat (first | refine blk_drewN ?_ _ | refine blk_drew ?_ | refine blk_alloc ?_ _)); refine blk_put (cs := #[.int .i64 t150, .string t151, .int .i64 t152, .int .i64 t153, .bool false, .int .i64 0, .int .i64 0, .string (⟨#[]⟩ : ByteArray), .bool false]) ?_ 4 _ rfl; (with_reducible repeat (first | refine blk_drewN ?_ _ | refine blk_drew ?_ | refine blk_alloc ?_ _)); refine blk_put (cs := #[.int .i64 t150, .string t151, .int .i64 t152, .int .i64 0, .bool false, .int .i64 0, .int .i64 0, .string (⟨#[]⟩ : ByteArray), .bool false]) ?_ 3 _ rfl; (with_reducible repeat (first | refine blk_drewN ?_ _ | refine blk_drew ?_ | refine blk_alloc ?_ _)); refine blk_put (cs := #[.int .i64 t150, .string t151, .int .i64 0, .int .i64 0, .bool false, .int .i64 0, .int .i64 0, .string (⟨#[]⟩ : ByteArray), .bool false]) ?_ 2 _ rfl; (with_reducible repeat (first | refine blk_drewN ?_ _ | refine blk_drew ?_ | refine blk_alloc ?_ _)); refine blk_put (cs := #[.int .i64 t150, .string (⟨#[]⟩ : ByteArray), .int .i64 0, .int .i64 0, .bool false, .int .i64 0, .int .i64 0, .string (⟨#[]⟩ : ByteArray), .bool false]) ?_ 1 _ rfl; (with_reducible repeat (first | refine blk_drewN ?_ _ | refine blk_drew ?_ | refine blk_alloc ?_ _)); refine blk_put (cs := #[.int .i64 0, .string (⟨#[]⟩ : ByteArray), .int .i64 0, .int .i64 0, .bool false, .int .i64 0, .int .i64 0, .string (⟨#[]⟩ : ByteArray), .bool false]) ?_ 0 _ rfl; (with_reducible repeat (first | refine blk_drewN ?_ _ | refine blk_drew ?_ | refine blk_alloc ?_ _)); exact BK159.out⟩, ⟨by repeat (first | (with_reducible first | exact HB.out | apply bA | apply pB | apply bW | refine below_set ?_ GE159.out) | exact HB.out)⟩⟩
        case round =>
         clear H'
         try clear p1
         try clear q1
         try clear hx1
         try clear p2
         try clear c3
         try clear c3b0
         try clear c4
         try clear c5
         try clear c5b0
         try clear c6
         try clear c6b0
         try clear c8
         try clear hcz10_0
         try clear hcz10_1
         try clear hcz10_2
         try clear hcz10_3
         try clear hcz10_4
         try clear hcz10_5
         try clear hcz10_6
         try clear hcz10_7
         try clear hcz10_8
         try clear hfz10_0
         try clear hfz10_1
         try clear hfz10_2
         try clear hfz10_3
         try clear hfz10_4
         try clear hfz10_5
         try clear hfz10_6
         try clear hfz10_7
         try clear hfz10_8
         try clear hx149_0
         try clear hx149_1
         try clear hx149_2
         try clear hx149_3
         try clear hx149_4
         try clear hx149_5
         try clear hx149_6
         try clear hx149_7
         try clear hx149_8
         try clear p149
         try clear p2
         try clear q149
         obtain ⟨x6_3, x7_3, rfl, rfl, HA, HK3, HO_3, BK159, HB⟩ := hrel
         cases gk with
         | zero => exact absurd HA.out (by simp [cenotaphref08_Fix.l1])
         | succ k3 =>
          have H := HA.out
          clear HA
          simp only [cenotaphref08_Fix.l1] at H
          by_cases c11 : x7_3 < (x3_1.length : Int)
          ·rw [if_pos c11] at H
           have c11b0 : decide (x7_3 < (x3_1.length : Int)) = true := dT c11
           clear c11
           by_cases c12 : x6_3 = true
           ·subst c12
            have H1 : (cenotaphref08_Fix.l1 k3 l0 x3_1 x4_1 true (wrap64 (x7_3 + 1)) t150 t151 t152 t153 t154 t155 t156 t157 t158) = some r := by rw [if_pos rfl] at H; exact H
            clear H
            have H := H1
            clear H1
            have H' := aK H
            clear H
            obtain ⟨Ao13, co13, eo13⟩ := Kd.R_slice HO_3.out
            subst eo13
            go_wp2
            repeat (go_quiet (fail); try go_wp2)
            go_roundg k3
            case measure => have := HK1.out; have := HJ1.out; have := HK3.out; omega
            case rel => exact ⟨(true), (wrap64 (x7_3 + 1)), zq8_6, zq8_6, H', ⟨by have := HK1.out; have := HJ1.out; have := HK3.out; omega⟩, ⟨by (with_reducible repeat (first | apply Kd.R_alloc | apply Kd.R_drewN | apply Kd.R_drew)); exact HO_3.out⟩, ⟨by (with_reducible repeat (first | refine blk_drewN ?_ _ | refine blk_drew ?_ | refine blk_alloc ?_ _)); exact BK159.out⟩, ⟨by repeat (first | (with_reducible first | exact HB.out | apply bA | apply pB | apply bW | refine below_set ?_ GE159.out) | exact HB.out)⟩⟩
           ·replace c12 := Bool.eq_false_iff.mpr c12
            subst c12
            have H1 : (if 0 ≤ x7_3 then (if ((rd_T28 x3_1 x7_3).f1.f2) = t153 then (cenotaphref08_Fix.l1 k3 l0 x3_1 x4_1 (((rd_T28 x3_1 x7_3).f1.f0).toList == t151.toList) (wrap64 (x7_3 + 1)) t150 t151 t152 t153 t154 t155 t156 t157 t158) else (cenotaphref08_Fix.l1 k3 l0 x3_1 x4_1 false (wrap64 (x7_3 + 1)) t150 t151 t152 t153 t154 t155 t156 t157 t158)) else (none)) = some r := by rw [if_neg (show ¬ (false = true) by decide)] at H; exact H
            clear H
            have H := H1
            clear H1
            by_cases c14 : 0 ≤ x7_3
            ·rw [if_pos c14] at H
             have c14b0 : decide (0 ≤ x7_3) = true := dT c14
             clear c14
             by_cases c15 : ((rd_T28 x3_1 x7_3).f1.f2) = t153
             ·rw [if_pos c15] at H
              have c15b0 : (((rd_T28 x3_1 x7_3).f1.f2) == t153) = true := beq_iff_eq.mpr c15
              have c15b1 : (((rd_T28 x3_1 x7_3).f1.f2) != t153) = false := bne_eq_false_iff_eq.mpr c15
              clear c15
              have H' := aK H
              clear H
              obtain ⟨Ao16, co16, eo16⟩ := Kd.R_slice HO_3.out
              subst eo16
              have p160 : 0 ≤ (x7_3 : Int) := oD zq8_5
              have q160 : x7_3 < (x3_1.length : Int) := oD zq8_5
              obtain ⟨ad160, e160, hx160_0, hx160_1, hx160_2, hx160_3, hx160_4, hx160_5, hx160_6, hx160_7, hx160_8⟩ := at_T28 (Kd.R_reads' HO_3.out).2.2 x7_3 p160 q160
              cases e160
              replace p160 := eT p160
              replace q160 := eT q160
              have hcz17_0 : wr.cell? ⟨gb159, 0, none⟩ = some (.int .i64 t150) := (bC BK159.out 0).trans rfl
              have hcz17_1 : wr.cell? ⟨gb159, 1, none⟩ = some (.string t151) := (bC BK159.out 1).trans rfl
              have hcz17_2 : wr.cell? ⟨gb159, 2, none⟩ = some (.int .i64 t152) := (bC BK159.out 2).trans rfl
              have hcz17_3 : wr.cell? ⟨gb159, 3, none⟩ = some (.int .i64 t153) := (bC BK159.out 3).trans rfl
              have hcz17_4 : wr.cell? ⟨gb159, 4, none⟩ = some (.bool t154) := (bC BK159.out 4).trans rfl
              have hcz17_5 : wr.cell? ⟨gb159, 5, none⟩ = some (.int .i64 t155) := (bC BK159.out 5).trans rfl
              have hcz17_6 : wr.cell? ⟨gb159, 6, none⟩ = some (.int .i64 t156) := (bC BK159.out 6).trans rfl
              have hcz17_7 : wr.cell? ⟨gb159, 7, none⟩ = some (.string t157) := (bC BK159.out 7).trans rfl
              have hcz17_8 : wr.cell? ⟨gb159, 8, none⟩ = some (.bool t158) := (bC BK159.out 8).trans rfl
              have hfz17_0 := bF_ BK159.out 0
              have hfz17_1 := bF_ BK159.out 1
              have hfz17_2 := bF_ BK159.out 2
              have hfz17_3 := bF_ BK159.out 3
              have hfz17_4 := bF_ BK159.out 4
              have hfz17_5 := bF_ BK159.out 5
              have hfz17_6 := bF_ BK159.out 6
              have hfz17_7 := bF_ BK159.out 7
              have hfz17_8 := bF_ BK159.out 8
              have p161 : 0 ≤ (x7_3 : Int) := oD zq8_5
              have q161 : x7_3 < (x3_1.length : Int) := oD zq8_5
              obtain ⟨ad161, e161, hx161_0, hx161_1, hx161_2, hx161_3, hx161_4, hx161_5, hx161_6, hx161_7, hx161_8⟩ := at_T28 (Kd.R_reads' HO_3.out).2.2 x7_3 p161 q161
              obtain rfl : ad160 = ad161 := (by injection e161)
              replace p161 := eT p161
              replace q161 := eT q161
              go_wp2
              repeat (go_quiet (fail); try go_wp2)
              go_roundg k3
              case measure => have := HK1.out; have := HJ1.out; have := HK3.out; omega
              case rel => exact ⟨((((rd_T28 x3_1 x7_3).f1.f0).toList == t151.toList)), (wrap64 (x7_3 + 1)), zq8_6, zq8_6, H', ⟨by have := HK1.out; have := HJ1.out; have := HK3.out; omega⟩, ⟨by (with_reducible repeat (first | apply Kd.R_alloc | apply Kd.R_drewN | apply Kd.R_drew)); exact HO_3.out⟩, ⟨by (with_reducible repeat (first | refine blk_drewN ?_ _ | refine blk_drew ?_ | refine blk_alloc ?_ _)); exact BK159.out⟩, ⟨by repeat (first | (with_reducible first | exact HB.out | apply bA | apply pB | apply bW | refine below_set ?_ GE159.out) | exact HB.out)⟩⟩
             ·rw [if_neg c15] at H
              have c15b0 : (((rd_T28 x3_1 x7_3).f1.f2) == t153) = false := beq_eq_false_iff_ne.mpr c15
              have c15b1 : (((rd_T28 x3_1 x7_3).f1.f2) != t153) = true := bne_iff_ne.mpr c15
              have H' := aK H
              clear H
              obtain ⟨Ao18, co18, eo18⟩ := Kd.R_slice HO_3.out
              subst eo18
              have p160 : 0 ≤ (x7_3 : Int) := oD zq8_5
              have q160 : x7_3 < (x3_1.length : Int) := oD zq8_5
              obtain ⟨ad160, e160, hx160_0, hx160_1, hx160_2, hx160_3, hx160_4, hx160_5, hx160_6, hx160_7, hx160_8⟩ := at_T28 (Kd.R_reads' HO_3.out).2.2 x7_3 p160 q160
              cases e160
              replace p160 := eT p160
              replace q160 := eT q160
              have hcz19_0 : wr.cell? ⟨gb159, 0, none⟩ = some (.int .i64 t150) := (bC BK159.out 0).trans rfl
              have hcz19_1 : wr.cell? ⟨gb159, 1, none⟩ = some (.string t151) := (bC BK159.out 1).trans rfl
              have hcz19_2 : wr.cell? ⟨gb159, 2, none⟩ = some (.int .i64 t152) := (bC BK159.out 2).trans rfl
              have hcz19_3 : wr.cell? ⟨gb159, 3, none⟩ = some (.int .i64 t153) := (bC BK159.out 3).trans rfl
              have hcz19_4 : wr.cell? ⟨gb159, 4, none⟩ = some (.bool t154) := (bC BK159.out 4).trans rfl
              have hcz19_5 : wr.cell? ⟨gb159, 5, none⟩ = some (.int .i64 t155) := (bC BK159.out 5).trans rfl
              have hcz19_6 : wr.cell? ⟨gb159, 6, none⟩ = some (.int .i64 t156) := (bC BK159.out 6).trans rfl
              have hcz19_7 : wr.cell? ⟨gb159, 7, none⟩ = some (.string t157) := (bC BK159.out 7).trans rfl
              have hcz19_8 : wr.cell? ⟨gb159, 8, none⟩ = some (.bool t158) := (bC BK159.out 8).trans rfl
              have hfz19_0 := bF_ BK159.out 0
              have hfz19_1 := bF_ BK159.out 1
              have hfz19_2 := bF_ BK159.out 2
              have hfz19_3 := bF_ BK159.out 3
              have hfz19_4 := bF_ BK159.out 4
              have hfz19_5 := bF_ BK159.out 5
              have hfz19_6 := bF_ BK159.out 6
              have hfz19_7 := bF_ BK159.out 7
              have hfz19_8 := bF_ BK159.out 8
              go_wp2
              repeat (go_quiet (fail); try go_wp2)
              go_roundg k3
              case measure => have := HK1.out; have := HJ1.out; have := HK3.out; omega
              case rel => exact ⟨(false), (wrap64 (x7_3 + 1)), zq8_6, zq8_6, H', ⟨by have := HK1.out; have := HJ1.out; have := HK3.out; omega⟩, ⟨by (with_reducible repeat (first | apply Kd.R_alloc | apply Kd.R_drewN | apply Kd.R_drew)); exact HO_3.out⟩, ⟨by (with_reducible repeat (first | refine blk_drewN ?_ _ | refine blk_drew ?_ | refine blk_alloc ?_ _)); exact BK159.out⟩, ⟨by repeat (first | (with_reducible first | exact HB.out | apply bA | apply pB | apply bW | refine below_set ?_ GE159.out) | exact HB.out)⟩⟩
            ·rw [if_neg c14] at H
             exact absurd H (by simp)
          ·rw [if_neg c11] at H
           have c11b0 : decide (x7_3 < (x3_1.length : Int)) = false := decide_eq_false c11
           clear c11
           by_cases c20 : x6_3 = true
           ·subst c20
            have H1 : (cenotaphref08_Fix.l0 k3 l0 x3_1 (wrap64 (x4_1 + 1))) = some r := by rw [if_pos rfl] at H; exact H
            clear H
            have H := H1
            clear H1
            have H' := aK H
            clear H
            obtain ⟨Ao21, co21, eo21⟩ := Kd.R_slice HO_3.out
            subst eo21
            go_wp2
            repeat (go_quiet (fail); try go_wp2)
            go_roundg k3
            case measure => have := HK1.out; have := HJ1.out; have := HK3.out; omega
            case rel => exact ⟨(x3_1), (wrap64 (x4_1 + 1)), zq8_6, H', ⟨by have := HK1.out; have := HJ1.out; have := HK3.out; omega⟩, ⟨by (with_reducible repeat (first | apply Kd.R_alloc | apply Kd.R_drewN | apply Kd.R_drew)); exact Kd.R_mono HO_3.out (fun _ hk => trivial)⟩, ⟨by repeat (first | (with_reducible first | exact HB.out | apply bA | apply pB | apply bW | refine below_set ?_ GE159.out) | exact HB.out)⟩⟩
           ·replace c20 := Bool.eq_false_iff.mpr c20
            subst c20
            have H1 : ((cenotaphref08_Put.f k3 x3_1 t150 t151 t152 t153 t154 t155 t156 t157 t158).bind fun bt162 => (cenotaphref08_Fix.l0 k3 l0 bt162.1 (wrap64 (x4_1 + 1)))) = some r := by rw [if_neg (show ¬ (false = true) by decide)] at H; exact H
            clear H
            have H := H1
            clear H1
            replace H := bM H
            obtain ⟨⟨t162, t165⟩, A220, H⟩ := H
            have A22 := aK A220
            clear A220
            have H' := aK H
            clear H
            obtain ⟨Ao23, co23, eo23⟩ := Kd.R_slice HO_3.out
            subst eo23
            have hcz24_0 : wr.cell? ⟨gb159, 0, none⟩ = some (.int .i64 t150) := (bC BK159.out 0).trans rfl
            have hcz24_1 : wr.cell? ⟨gb159, 1, none⟩ = some (.string t151) := (bC BK159.out 1).trans rfl
            have hcz24_2 : wr.cell? ⟨gb159, 2, none⟩ = some (.int .i64 t152) := (bC BK159.out 2).trans rfl
            have hcz24_3 : wr.cell? ⟨gb159, 3, none⟩ = some (.int .i64 t153) := (bC BK159.out 3).trans rfl
            have hcz24_4 : wr.cell? ⟨gb159, 4, none⟩ = some (.bool t154) := (bC BK159.out 4).trans rfl
            have hcz24_5 : wr.cell? ⟨gb159, 5, none⟩ = some (.int .i64 t155) := (bC BK159.out 5).trans rfl
            have hcz24_6 : wr.cell? ⟨gb159, 6, none⟩ = some (.int .i64 t156) := (bC BK159.out 6).trans rfl
            have hcz24_7 : wr.cell? ⟨gb159, 7, none⟩ = some (.string t157) := (bC BK159.out 7).trans rfl
            have hcz24_8 : wr.cell? ⟨gb159, 8, none⟩ = some (.bool t158) := (bC BK159.out 8).trans rfl
            have hfz24_0 := bF_ BK159.out 0
            have hfz24_1 := bF_ BK159.out 1
            have hfz24_2 := bF_ BK159.out 2
            have hfz24_3 := bF_ BK159.out 3
            have hfz24_4 := bF_ BK159.out 4
            have hfz24_5 := bF_ BK159.out 5
            have hfz24_6 := bF_ BK159.out 6
            have hfz24_7 := bF_ BK159.out 7
            have hfz24_8 := bF_ BK159.out 8
            go_wp2_with (first | (go_at_call 13; (with_reducible refine (cenotaphref08_Put.calls k3 _ _ x3_1 t150 t151 t152 t153 t154 t155 t156 t157 t158 t162 t165 _ ?side1 ?side2 A22.out).mono ?_); (case side1 => repeat (first | exact (Kd.R_reads' HO_3.out).2.2 | (with_reducible refine Kd.C_alloc ?_ _) | (with_reducible refine Kd.C_drewN ?_ _) | (with_reducible refine Kd.C_drew ?_))); (case side2 => exact (Kd.R_reads' HO_3.out).2.1); rintro e w25 ⟨v163, rfl, ho0, hb⟩; have HO164 := aK (Kd.R_lower (Kd.R_newB (Kd.R_new' ho0 (Kd.R_lt zq8_4)) (g := gb159) (o := .cells #[.int .i64 t150, .string t151, .int .i64 t152, .int .i64 t153, .bool t154, .int .i64 t155, .int .i64 t156, .string t157, .bool t158] 28 (0, 0)) zq8_3) (below_size zq8_1)); replace HO_3 := aK (Kd.R_elder' zq8_4 (Kd.R_base ho0) hb); replace BK159 := aK (bB (g := gb159) (o := .cells #[.int .i64 t150, .string t151, .int .i64 t152, .int .i64 t153, .bool t154, .int .i64 t155, .int .i64 t156, .string t157, .bool t158] 28 (0, 0)) zq8_3 hb); replace HB := aK (bS zq8_1 hb); (try clear hb); (try clear hb2); (try clear hk); (try clear hi); (try clear ho0)))
            repeat (go_quiet (first | (go_at_call 13; fail_if_success (have h_ := HO164); (with_reducible refine (cenotaphref08_Put.calls k3 _ _ x3_1 t150 t151 t152 t153 t154 t155 t156 t157 t158 t162 t165 _ ?side1 ?side2 A22.out).mono ?_); (case side1 => repeat (first | exact (Kd.R_reads' HO_3.out).2.2 | (with_reducible refine Kd.C_alloc ?_ _) | (with_reducible refine Kd.C_drewN ?_ _) | (with_reducible refine Kd.C_drew ?_))); (case side2 => exact (Kd.R_reads' HO_3.out).2.1); rintro e w25 ⟨v163, rfl, ho0, hb⟩; have HO164 := aK (Kd.R_lower (Kd.R_newB (Kd.R_new' ho0 (Kd.R_lt zq8_4)) (g := gb159) (o := .cells #[.int .i64 t150, .string t151, .int .i64 t152, .int .i64 t153, .bool t154, .int .i64 t155, .int .i64 t156, .string t157, .bool t158] 28 (0, 0)) zq8_3) (below_size zq8_1)); replace HO_3 := aK (Kd.R_elder' zq8_4 (Kd.R_base ho0) hb); replace BK159 := aK (bB (g := gb159) (o := .cells #[.int .i64 t150, .string t151, .int .i64 t152, .int .i64 t153, .bool t154, .int .i64 t155, .int .i64 t156, .string t157, .bool t158] 28 (0, 0)) zq8_3 hb); replace HB := aK (bS zq8_1 hb); (try clear hb); (try clear hb2); (try clear hk); (try clear hi); (try clear ho0))); try go_wp2_with (first | (go_at_call 13; (with_reducible refine (cenotaphref08_Put.calls k3 _ _ x3_1 t150 t151 t152 t153 t154 t155 t156 t157 t158 t162 t165 _ ?side1 ?side2 A22.out).mono ?_); (case side1 => repeat (first | exact (Kd.R_reads' HO_3.out).2.2 | (with_reducible refine Kd.C_alloc ?_ _) | (with_reducible refine Kd.C_drewN ?_ _) | (with_reducible refine Kd.C_drew ?_))); (case side2 => exact (Kd.R_reads' HO_3.out).2.1); rintro e w25 ⟨v163, rfl, ho0, hb⟩; have HO164 := aK (Kd.R_lower (Kd.R_newB (Kd.R_new' ho0 (Kd.R_lt zq8_4)) (g := gb159) (o := .cells #[.int .i64 t150, .string t151, .int .i64 t152, .int .i64 t153, .bool t154, .int .i64 t155, .int .i64 t156, .string t157, .bool t158] 28 (0, 0)) zq8_3) (below_size zq8_1)); replace HO_3 := aK (Kd.R_elder' zq8_4 (Kd.R_base ho0) hb); replace BK159 := aK (bB (g := gb159) (o := .cells #[.int .i64 t150, .string t151, .int .i64 t152, .int .i64 t153, .bool t154, .int .i64 t155, .int .i64 t156, .string t157, .bool t158] 28 (0, 0)) zq8_3 hb); replace HB := aK (bS zq8_1 hb); (try clear hb); (try clear hb2); (try clear hk); (try clear hi); (try clear ho0))))
            go_roundg k3
            case measure => have := HK1.out; have := HJ1.out; have := HK3.out; omega
            case rel => exact ⟨(t162), (wrap64 (x4_1 + 1)), zq8_6, H', ⟨by have := HK1.out; have := HJ1.out; have := HK3.out; omega⟩, ⟨by (with_reducible repeat (first | apply Kd.R_alloc | apply Kd.R_drewN | apply Kd.R_drew)); exact Kd.R_mono HO164.out (fun _ hk => trivial)⟩, ⟨by repeat (first | (with_reducible first | exact HB.out | apply bA | apply pB | apply bW | refine below_set ?_ GE159.out) | exact HB.out)⟩⟩
       ·rw [if_neg c6] at H
        exact absurd H (by simp)
      ·rw [if_neg c5] at H
       exact absurd H (by simp)
     ·replace c4 := Bool.eq_false_iff.mpr c4
      subst c4
      have H1 : (some x3_1) = some r := by rw [if_neg (show ¬ (false = true) by decide)] at H; exact H
      clear H
      have H := H1
      clear H1
      obtain rfl := sI H
      go_wp2
      repeat (go_quiet (fail); try go_wp2)
      go_ret
      exact ⟨_, by first | rfl | (simp [errW_none, errW_some] <;> rfl) | (simp [*, errW_none, errW_some] <;> rfl), by (with_reducible repeat (first | apply Kd.R_alloc | apply Kd.R_drewN | apply Kd.R_drew)); exact HO_3.out, by repeat (first | (with_reducible first | exact HB.out | apply bA | apply pB | apply bW) | exact HB.out)⟩
def cenotaphlaw08_To.l0 : Nat → List (S28) → List (S41) → Int → Option ((List (S41)))
 | 0, _, _, _ => none
 | k + 1, x0, x3, x4 => if x4 < (x0.length : Int) then (if 0 ≤ x4 then ((cenotaphlaw07_To.f ((rd_T28 x0 x4).f0) ((rd_T28 x0 x4).f1.f0) ((rd_T28 x0 x4).f1.f1) ((rd_T28 x0 x4).f1.f2) ((rd_T28 x0 x4).f2) ((rd_T28 x0 x4).f3.f0) ((rd_T28 x0 x4).f3.f1) ((rd_T28 x0 x4).f4) ((rd_T28 x0 x4).f5)).bind fun bt169 => (if x3.length < 1599289640401 then (cenotaphlaw08_To.l0 k x0 (x3 ++ [(⟨bt169.1, (⟨bt169.2.1, bt169.2.2.1, bt169.2.2.2.1⟩ : S38), bt169.2.2.2.2.1, bt169.2.2.2.2.2.1, bt169.2.2.2.2.2.2.1, bt169.2.2.2.2.2.2.2⟩ : S41)]) (wrap64 (x4 + 1))) else (none))) else (none)) else (some x3)
def cenotaphlaw08_To.f (k : Nat) (l0 : List (S28)) : Option ((List (S41))) := cenotaphlaw08_To.l0 k l0 ([] : List (S41)) 0
theorem cenotaphlaw08_To.mono_l : ∀ k, (∀ y0 y1 y2, LeO (cenotaphlaw08_To.l0 k y0 y1 y2) (cenotaphlaw08_To.l0 (k + 1) y0 y1 y2))
 | 0 => fun _ _ _ r h => by simp [cenotaphlaw08_To.l0] at h
 | k + 1 => by
  have ih0 := cenotaphlaw08_To.mono_l k
  ·intro y0 y1 y2
   unfold cenotaphlaw08_To.l0
   repeat' first
   | (with_reducible exact ih0 _ _ _)
   | (with_reducible exact LeO.refl _)
   | (with_reducible exact LeO.none _)
   | (with_reducible refine LeO.ite ?_ ?_)
   | (with_reducible refine LeO.bind ?_ (fun _ => ?_))
   | exact ih0 _ _ _
   | exact LeO.none _
   | refine LeO.ite ?_ ?_
   | refine LeO.bind ?_ (fun _ => ?_)
theorem cenotaphlaw08_To.mono : ∀ a0 k, LeO (cenotaphlaw08_To.f k a0) (cenotaphlaw08_To.f (k + 1) a0) := by
 intro a0 k
 have ih0 := cenotaphlaw08_To.mono_l k
 unfold cenotaphlaw08_To.f
 repeat' first
   | (with_reducible exact ih0 _ _ _)
   | (with_reducible exact LeO.refl _)
   | (with_reducible exact LeO.none _)
   | (with_reducible refine LeO.ite ?_ ?_)
   | (with_reducible refine LeO.bind ?_ (fun _ => ?_))
   | exact ih0 _ _ _
   | exact LeO.none _
   | refine LeO.ite ?_ ?_
   | refine LeO.bind ?_ (fun _ => ?_)
theorem cenotaphlaw08_To.calls (k : Nat) (A0 : Option Addr) (c0 : Nat) (l0 : List (S28)) (r : List (S41)) (w : World) (hr0 : Kd.C k28 w A0 l0.length l0) (hc0 : l0.length ≤ c0) (h : cenotaphlaw08_To.f k l0 = some r) :
  Calls Try.prog 10 #[.slice A0 l0.length c0] w fun e w' => ∃ v0_ : Value, e = .returned (v0_) ∧ Kd.R k41 41 w' w.heap.size (fun _ => True) v0_ r ∧ Below w.heap.size w w' := by
 have hu28 := Try.underlying28
 have HR0 := aK hr0
 have HC0 := aK hc0
 clear hr0 hc0
 have HB := aK (Below.refl w.heap.size w)
 have H : (cenotaphlaw08_To.l0 k l0 ([] : List (S41)) 0) = some r := h
 clear h
 have H' := aK H
 clear H
 go_enter Try.func10, Try.ntmps10
 go_wp2
 go_loopg [3, 4] k (fun kq v3 v4 w' => ∃ (x3_1 : List (S41)) (x4_1 : Int), v4 = .int .i64 x4_1 ∧ Aside0 (cenotaphlaw08_To.l0 kq l0 x3_1 x4_1 = some r) ∧ Aside0 (kq ≤ k) ∧ Aside0 (Kd.R k41 41 w' w.heap.size (fun _ => True) v3 x3_1) ∧ Aside0 (Below w.heap.size w w'))
 case atStart => exact ⟨(([] : List (S41))), (0), (by first | rfl | (simp; done) | (simp [*]; done)), H', ⟨Nat.le_refl _⟩, ⟨by first | exact Kd.R_nil _ _ _ _ _ | exact Kd.N_nil _ _ _ _ _ | exact Kd.V_nil _ _ _ _ _ | exact Kd.Q_nil _ _ _ _ _ | exact Kd.S_nil _ _ _ _ _⟩, ⟨by repeat (first | (with_reducible first | exact HB.out | apply bA | apply pB | apply bW) | exact HB.out)⟩⟩
 case round =>
  clear H'
  try clear c1
  obtain ⟨x3_1, x4_1, rfl, HA, HK1, HO_3, HB⟩ := hrel
  cases gk with
  | zero => exact absurd HA.out (by simp [cenotaphlaw08_To.l0])
  | succ k1 =>
   have H := HA.out
   clear HA
   simp only [cenotaphlaw08_To.l0] at H
   by_cases c2 : x4_1 < (l0.length : Int)
   ·rw [if_pos c2] at H
    have c2b0 : decide (x4_1 < (l0.length : Int)) = true := dT c2
    clear c2
    by_cases c3 : 0 ≤ x4_1
    ·rw [if_pos c3] at H
     have c3b0 : decide (0 ≤ x4_1) = true := dT c3
     clear c3
     replace H := bM H
     obtain ⟨⟨t169, t170, t171, t172, t173, t174, t175, t176⟩, A40, H⟩ := H
     have A4 := aK A40
     clear A40
     by_cases c5 : x3_1.length < 1599289640401
     ·rw [if_pos c5] at H
      have LMc5 := aK c5
      clear c5
      obtain ⟨y177, hy177⟩ : ∃ y_ : List (S41), y_ = (x3_1 ++ [(⟨t169, (⟨t170, t171, t172⟩ : S38), t173, t174, t175, t176⟩ : S41)]) := ⟨_, rfl⟩
      replace H : (cenotaphlaw08_To.l0 k1 l0 y177 (wrap64 (x4_1 + 1))) = some r := by first | (rw [hy177]; with_reducible exact H) | (have H2_ := (Option.bind_some _ _).symm.trans H; rw [hy177]; with_reducible exact H2_) | (have H2_ := (Option.bind_some _ _).symm.trans H; with_reducible exact H2_) | with_reducible exact H | (rw [hy177]; exact H) | exact H
      have Ny177 := aK hy177
      clear hy177
      have H' := aK H
      clear H
      have p168 : 0 ≤ (x4_1 : Int) := oD (by first | (with_reducible assumption) | assumption)
      have q168 : x4_1 < (l0.length : Int) := oD (by first | (with_reducible assumption) | assumption)
      obtain ⟨ad168, e168, hx168_0, hx168_1, hx168_2, hx168_3, hx168_4, hx168_5, hx168_6, hx168_7, hx168_8⟩ := at_T28 HR0.out x4_1 p168 q168
      cases e168
      replace hx168_0 := pc_ HB hx168_0
      replace hx168_1 := pc_ HB hx168_1
      replace hx168_2 := pc_ HB hx168_2
      replace hx168_3 := pc_ HB hx168_3
      replace hx168_4 := pc_ HB hx168_4
      replace hx168_5 := pc_ HB hx168_5
      replace hx168_6 := pc_ HB hx168_6
      replace hx168_7 := pc_ HB hx168_7
      replace hx168_8 := pc_ HB hx168_8
      replace p168 := eT p168
      replace q168 := eT q168
      go_wp2_with (first | ((with_reducible refine gate_callee (f := 12) rfl ?_); refine goesL_ (some 16) rfl rfl Try.func12 (by kernel_rfl) rfl #[.agg #[.int .i64 ((rd_T28 l0 x4_1).f0), .string ((rd_T28 l0 x4_1).f1.f0), .int .i64 ((rd_T28 l0 x4_1).f1.f1), .int .i64 ((rd_T28 l0 x4_1).f1.f2), .bool ((rd_T28 l0 x4_1).f2), .int .i64 ((rd_T28 l0 x4_1).f3.f0), .int .i64 ((rd_T28 l0 x4_1).f3.f1), .string ((rd_T28 l0 x4_1).f4), .bool ((rd_T28 l0 x4_1).f5)]] rfl (by (try simp only [List.map_toArray, List.map_cons, List.map_nil]); first | done | rfl | (simp only [List.length_drop, List.length_take]; rfl)) ?_; (with_reducible refine (cenotaphlaw07_To.calls ((rd_T28 l0 x4_1).f0) ((rd_T28 l0 x4_1).f1.f0) ((rd_T28 l0 x4_1).f1.f1) ((rd_T28 l0 x4_1).f1.f2) ((rd_T28 l0 x4_1).f2) ((rd_T28 l0 x4_1).f3.f0) ((rd_T28 l0 x4_1).f3.f1) ((rd_T28 l0 x4_1).f4) ((rd_T28 l0 x4_1).f5) t169 t170 t171 t172 t173 t174 t175 t176 _ A4.out).mono ?_); rintro e w6 ⟨rfl, hb⟩; refine ⟨_, rfl, ?_⟩; replace HO_3 := aK (Kd.R_below (by (with_reducible repeat (first | apply Kd.R_alloc | apply Kd.R_drewN | apply Kd.R_drew)); exact HO_3.out) hb); replace HB := aK (bS (by repeat (first | (with_reducible first | exact HB.out | apply bA | apply pB | apply bW) | exact HB.out)) hb); (try clear hb); (try clear hb2); (try clear hk); (try clear hi)) | ((with_reducible refine gate_builtin (b := .append) (xs := #[.tmp 11, .tmp 17]) rfl ?_); at_builtin; refine Kd.R_append k41 (w0 := w) w.heap.size rfl (.tmp 11) (.tmp 17) 31 41 (.agg #[(.int .i64 0), (.string ⟨#[]⟩), (.int .i64 0), (.int .i64 0), (.bool false), (.complex .f64 0 0), (.string ⟨#[]⟩), (.bool false)]) 88 rfl Try.underlying31 info41 rfl (by decide) (by omega) u3 x3_1 (⟨t169, (⟨t170, t171, t172⟩ : S38), t173, t174, t175, t176⟩ : S41) [.int .i64 t169, .string t170, .int .i64 t171, .int .i64 t172, .bool t173, .complex .f64 t174.re t174.im, .string t175, .bool t176] (fun _ => True) (fun _ => False) rfl rfl ?aP (fun _ hk => hk.elim) ?aF ?aO ?aB ?aS ?aL ?_; (case aP => exact k41_mkM _ _ _ (⟨t169, (⟨t170, t171, t172⟩ : S38), t173, t174, t175, t176⟩ : S41)); (case aB => exact (by repeat (first | (with_reducible first | exact HB.out | apply bA | apply pB | apply bW) | exact HB.out))); (case aF => exact (fun _ _ => trivial)); (case aO => exact (by (with_reducible repeat (first | apply Kd.R_alloc | apply Kd.R_drewN | apply Kd.R_drew)); exact HO_3.out)); (case aS => exact (below_size (by repeat (first | (with_reducible first | exact HB.out | apply bA | apply pB | apply bW) | exact HB.out)))); (case aL => have := LMc5.out; omega); intro v178 w7 ho hb hg hat; rw [← Ny177.out] at ho; replace HB := aK (hb); have HO179 := aK (ho); clear HO_3; clear ho hb hg hat))
      go_roundg k1
      case measure => have := HK1.out; omega
      case rel => exact ⟨(y177), (wrap64 (x4_1 + 1)), (by first | rfl | (simp; done) | (simp [*]; done)), H', ⟨by have := HK1.out; omega⟩, ⟨by (with_reducible repeat (first | apply Kd.R_alloc | apply Kd.R_drewN | apply Kd.R_drew)); exact HO179.out⟩, ⟨by repeat (first | (with_reducible first | exact HB.out | apply bA | apply pB | apply bW) | exact HB.out)⟩⟩
     ·rw [if_neg c5] at H
      exact absurd H (by simp)
    ·rw [if_neg c3] at H
     exact absurd H (by simp)
   ·rw [if_neg c2] at H
    have c2b0 : decide (x4_1 < (l0.length : Int)) = false := decide_eq_false c2
    clear c2
    obtain rfl := sI H
    go_wp2
    go_ret
    exact ⟨_, by first | rfl | (simp [errW_none, errW_some] <;> rfl) | (simp [*, errW_none, errW_some] <;> rfl), by (with_reducible repeat (first | apply Kd.R_alloc | apply Kd.R_drewN | apply Kd.R_drew)); exact HO_3.out, by repeat (first | (with_reducible first | exact HB.out | apply bA | apply pB | apply bW) | exact HB.out)⟩
end Go.Proofs.Ytgdkgobplinelaa.P
