-- Written by a program of this session (wip/pp.py over the kit's printer, with our own texts put in).
import Derived.Test.YtoodahceejdbcaaP0
import Derived.Test.YtoodahceejdbcaaP3
import Derived.Test.YtoodahceejdbcaaP4
import Derived.Test.YtoodahceejdbcaaP5
import Derived.Test.YtoodahceejdbcaaP7
import Derived.Test.YtoodahceejdbcaaP10
namespace Go.Proofs.Ytoodahceejdbcaa.P
open Go.RowKit Go.Proofs.YtoodahceejdbcaaW.PrintWords Go.Proofs.YtoodahceejdbcaaW.PrintLast Go.Proofs.YtoodahceejdbcaaW.PrintMore
attribute [local go_sem] max2_int min2_int max_two min_two max_three min_three max_four min_four   -- for this text's walks alone
set_option linter.unusedVariables false
set_option linter.unusedSimpArgs false

/-! ### cenotaphlaw10_MatrixOnce: function 5 -/
theorem zq5_0 {p_ : Prop} (h_ : p_ := by repeat (first | (with_reducible exact HR384_1.out) | (with_reducible refine Kd.C_alloc ?_ _) | (with_reducible refine Kd.C_drewN ?_ _) | (with_reducible refine Kd.C_drew ?_) | exact HR384_1.out)) : p_ := h_
theorem zq5_1 {p_ : Prop} (h_ : p_ := by repeat (first | (with_reducible exact HR385_1.out) | (with_reducible refine Kd.C_alloc ?_ _) | (with_reducible refine Kd.C_drewN ?_ _) | (with_reducible refine Kd.C_drew ?_) | exact HR385_1.out)) : p_ := h_
theorem zq5_2 {p_ : Prop} (h_ : p_ := by repeat (first | (with_reducible exact HR389_1.out) | (with_reducible refine Kd.C_alloc ?_ _) | (with_reducible refine Kd.C_drewN ?_ _) | (with_reducible refine Kd.C_drew ?_) | exact HR389_1.out)) : p_ := h_
theorem zq5_3 {p_ : Prop} (h_ : p_ := by (try simp only [List.map_toArray, List.map_cons, List.map_nil]); first | done | rfl | (simp only [List.length_drop, List.length_take]; rfl)) : p_ := h_
theorem zq5_4 {p_ : Prop} (h_ : p_ := by repeat (first | (with_reducible first | exact HB.out | apply below_alloc | apply pw_below_drewN | apply below_drew1) | exact HB.out)) : p_ := h_
theorem zq5_5 {p_ : Prop} (h_ : p_ := by (with_reducible repeat (first | apply Kd.V_alloc | apply Kd.V_drewN | apply Kd.V_drew)); exact HL384_1.out) : p_ := h_
theorem zq5_6 {p_ : Prop} (h_ : p_ := by (with_reducible repeat (first | apply Kd.V_alloc | apply Kd.V_drewN | apply Kd.V_drew)); exact HL385_1.out) : p_ := h_
theorem zq5_7 {p_ : Prop} (h_ : p_ := by (with_reducible repeat (first | apply Kd.V_alloc | apply Kd.V_drewN | apply Kd.V_drew)); exact HL389_1.out) : p_ := h_
theorem zq5_8 {p_ : Prop} (h_ : p_ := by (with_reducible repeat (first | apply Kd.V_alloc | apply Kd.V_drewN | apply Kd.V_drew)); exact HO365.out) : p_ := h_
theorem zq5_9 {p_ : Prop} (h_ : p_ := by (with_reducible repeat (first | apply Kd.S_alloc | apply Kd.S_drewN | apply Kd.S_drew)); exact HO368.out) : p_ := h_
theorem zq5_10 {p_ : Prop} (h_ : p_ := by (with_reducible repeat (first | apply Kd.V_alloc | apply Kd.V_drewN | apply Kd.V_drew)); exact HO371.out) : p_ := h_
theorem zq5_11 {p_ : Prop} (h_ : p_ := by (with_reducible repeat (first | apply Kd.S_alloc | apply Kd.S_drewN | apply Kd.S_drew)); exact HO374.out) : p_ := h_
theorem zq5_12 {p_ : Prop} (h_ : p_ := by (with_reducible repeat (first | apply Kd.V_alloc | apply Kd.V_drewN | apply Kd.V_drew)); exact HO_10.out) : p_ := h_
theorem zq5_13 {p_ : Prop} (h_ : p_ := by (with_reducible repeat (first | apply Kd.V_alloc | apply Kd.V_drewN | apply Kd.V_drew)); exact HO400.out) : p_ := h_
theorem zq5_14 {p_ : Prop} (h_ : p_ := by (with_reducible repeat (first | apply Kd.V_alloc | apply Kd.V_drewN | apply Kd.V_drew)); exact HO403.out) : p_ := h_
theorem zq5_15 {p_ : Prop} (h_ : p_ := by (with_reducible repeat (first | apply Kd.V_alloc | apply Kd.V_drewN | apply Kd.V_drew)); exact HO406.out) : p_ := h_
theorem zq5_16 {p_ : Prop} (h_ : p_ := by (with_reducible repeat (first | apply Kd.S_alloc | apply Kd.S_drewN | apply Kd.S_drew)); exact HO_7.out) : p_ := h_
theorem zq5_17 {p_ : Prop} (h_ : p_ := by (with_reducible repeat (first | apply Kd.S_alloc | apply Kd.S_drewN | apply Kd.S_drew)); exact HO_8.out) : p_ := h_
theorem zq5_18 {p_ : Prop} (h_ : p_ := by (with_reducible repeat (first | apply Kd.S_alloc | apply Kd.S_drewN | apply Kd.S_drew)); exact HO_9.out) : p_ := h_
theorem zq5_19 {p_ : Prop} (h_ : p_ := by first | (with_reducible assumption) | assumption) : p_ := h_
def cenotaphlaw10_MatrixOnce.l0 : Nat → List (S50) → List (S50) → List (S50) → List (S50) → Int → Option (Bool)
 | 0, _, _, _, _, _ => none
 | k + 1, x7, x8, x9, x10, x11 => if x11 < (x10.length : Int) then (if 0 ≤ x11 then ((matrix_Of.f x7 ((rd_T50 x10 x11).f0)).bind fun t386 => ((matrix_Of.f x8 ((rd_T50 x10 x11).f0)).bind fun t390 => ((vec_Join.f k t386 t390).bind fun t393 => ((vec_Same.f k ((rd_T50 x10 x11).f1) t393).bind fun t396 => (if t396 = true then (cenotaphlaw10_MatrixOnce.l0 k x7 x8 x9 x10 (wrap64 (x11 + 1))) else (none)))))) else (none)) else ((cenotaphlaw10_told.f k).bind fun t397 => (if t397 = true then ((matrix_Merge.f k x10 x9).bind fun t398 => ((matrix_Merge.f k x8 x9).bind fun t401 => ((matrix_Merge.f k x7 t401).bind fun t404 => ((matrix_Same.f k t398 t404).bind fun t407 => (if t407 = true then ((matrix_Merge.f k x10 x8).bind fun t408 => ((matrix_Same.f k t408 x10).bind fun t411 => (if t411 = true then ((matrix_Right.f k x10).bind fun t412 => (some t412)) else (none)))) else (none)))))) else (none)))
def cenotaphlaw10_MatrixOnce.f (k : Nat) (l0 : List (S25)) (l1 : List (S25)) (l2 : List (S25)) : Option (Bool) := (cenotaphref10_Fix.f k l0).bind fun t363 => ((cenotaphlaw10_To.f k t363).bind fun t366 => ((cenotaphref10_Fix.f k l1).bind fun t369 => ((cenotaphlaw10_To.f k t369).bind fun t372 => ((cenotaphref10_Fix.f k l2).bind fun t375 => ((cenotaphlaw10_To.f k t375).bind fun t378 => ((matrix_Merge.f k t366 t372).bind fun t381 => (cenotaphlaw10_MatrixOnce.l0 k t366 t372 t378 t381 0)))))))
theorem cenotaphlaw10_MatrixOnce.mono_l : ∀ k, (∀ y0 y1 y2 y3 y4, LeO (cenotaphlaw10_MatrixOnce.l0 k y0 y1 y2 y3 y4) (cenotaphlaw10_MatrixOnce.l0 (k + 1) y0 y1 y2 y3 y4))
 | 0 => fun _ _ _ _ _ r h => by simp [cenotaphlaw10_MatrixOnce.l0] at h
 | k + 1 => by
  have ih0 := cenotaphlaw10_MatrixOnce.mono_l k
  ·intro y0 y1 y2 y3 y4
   unfold cenotaphlaw10_MatrixOnce.l0
   repeat' first
   | (with_reducible exact ih0 _ _ _ _ _)
   | (with_reducible exact cenotaphlaw10_To.mono _ _)
   | (with_reducible exact cenotaphlaw10_told.mono _)
   | (with_reducible exact cenotaphref10_Fix.mono _ _)
   | (with_reducible exact matrix_Merge.mono _ _ _)
   | (with_reducible exact matrix_Right.mono _ _)
   | (with_reducible exact matrix_Same.mono _ _ _)
   | (with_reducible exact vec_Join.mono _ _ _)
   | (with_reducible exact vec_Same.mono _ _ _)
   | (with_reducible exact LeO.refl _)
   | (with_reducible exact LeO.none _)
   | (with_reducible refine LeO.ite ?_ ?_)
   | (with_reducible refine LeO.bind ?_ (fun _ => ?_))
   | exact ih0 _ _ _ _ _
   | exact cenotaphlaw10_To.mono _ _
   | exact cenotaphlaw10_told.mono _
   | exact cenotaphref10_Fix.mono _ _
   | exact matrix_Merge.mono _ _ _
   | exact matrix_Right.mono _ _
   | exact matrix_Same.mono _ _ _
   | exact vec_Join.mono _ _ _
   | exact vec_Same.mono _ _ _
   | exact LeO.none _
   | refine LeO.ite ?_ ?_
   | refine LeO.bind ?_ (fun _ => ?_)
theorem cenotaphlaw10_MatrixOnce.mono : ∀ a0 a1 a2 k, LeO (cenotaphlaw10_MatrixOnce.f k a0 a1 a2) (cenotaphlaw10_MatrixOnce.f (k + 1) a0 a1 a2) := by
 intro a0 a1 a2 k
 have ih0 := cenotaphlaw10_MatrixOnce.mono_l k
 unfold cenotaphlaw10_MatrixOnce.f
 repeat' first
   | (with_reducible exact ih0 _ _ _ _ _)
   | (with_reducible exact cenotaphlaw10_To.mono _ _)
   | (with_reducible exact cenotaphlaw10_told.mono _)
   | (with_reducible exact cenotaphref10_Fix.mono _ _)
   | (with_reducible exact matrix_Merge.mono _ _ _)
   | (with_reducible exact matrix_Right.mono _ _)
   | (with_reducible exact matrix_Same.mono _ _ _)
   | (with_reducible exact vec_Join.mono _ _ _)
   | (with_reducible exact vec_Same.mono _ _ _)
   | (with_reducible exact LeO.refl _)
   | (with_reducible exact LeO.none _)
   | (with_reducible refine LeO.ite ?_ ?_)
   | (with_reducible refine LeO.bind ?_ (fun _ => ?_))
   | exact ih0 _ _ _ _ _
   | exact cenotaphlaw10_To.mono _ _
   | exact cenotaphlaw10_told.mono _
   | exact cenotaphref10_Fix.mono _ _
   | exact matrix_Merge.mono _ _ _
   | exact matrix_Right.mono _ _
   | exact matrix_Same.mono _ _ _
   | exact vec_Join.mono _ _ _
   | exact vec_Same.mono _ _ _
   | exact LeO.none _
   | refine LeO.ite ?_ ?_
   | refine LeO.bind ?_ (fun _ => ?_)
def cenotaphlaw10_MatrixOnce.T6 : Bool × List (List Nat × List Nat) := (true, [([], []), ([], []), ([0, 1], [0, 1]), ([2], [2]), ([3], [3]), ([], []), ([], []), ([], []), ([6, 7], [6, 7]), ([8], [8]), ([9], [9]), ([5, 10], [5, 10]), ([], []), ([], []), ([], []), ([13, 14], [13, 14]), ([15], [15]), ([16], [16]), ([12, 17, 11], [12, 17]), ([11, 18, 18], [11, 18]), ([4, 19, 19], [4, 19]), ([20], [20])])
def cenotaphlaw10_MatrixOnce.B6 : List Nat := [0, 0, 3, 7, 15, 0, 0, 0, 192, 448, 960, 2016, 0, 0, 0, 24576, 57344, 122880, 262112, 524256, 1048575, 2097151]
theorem cenotaphlaw10_MatrixOnce.tab6 : rtab .any (opsOf Try.f5 6) = cenotaphlaw10_MatrixOnce.T6 := by kernel_rfl
theorem cenotaphlaw10_MatrixOnce.bits6 : waitsOk cenotaphlaw10_MatrixOnce.T6.2 cenotaphlaw10_MatrixOnce.B6 = true := by kernel_rfl
set_option maxHeartbeats 8000000 in
set_option maxRecDepth 100000 in
theorem cenotaphlaw10_MatrixOnce.calls (k : Nat) (A0 : Option Addr) (c0 : Nat) (l0 : List (S25)) (A1 : Option Addr) (c1 : Nat) (l1 : List (S25)) (A2 : Option Addr) (c2 : Nat) (l2 : List (S25)) (r : Bool) (w : World) (hr0 : Kd.C k25 w A0 l0.length l0) (hc0 : l0.length ≤ c0) (hr1 : Kd.C k25 w A1 l1.length l1) (hc1 : l1.length ≤ c1) (hr2 : Kd.C k25 w A2 l2.length l2) (hc2 : l2.length ≤ c2) (h : cenotaphlaw10_MatrixOnce.f k l0 l1 l2 = some r) :
  Calls Try.prog 5 #[.slice A0 l0.length c0, .slice A1 l1.length c1, .slice A2 l2.length c2] w fun e w' => e = .returned (.bool r) ∧ Below w.heap.size w w' := by
 have HR0 := Aside0.mk hr0
 have HC0 := Aside0.mk hc0
 clear hr0 hc0
 have HR1 := Aside0.mk hr1
 have HC1 := Aside0.mk hc1
 clear hr1 hc1
 have HR2 := Aside0.mk hr2
 have HC2 := Aside0.mk hc2
 clear hr2 hc2
 have HB := Aside0.mk (Below.refl w.heap.size w)
 have H : ((cenotaphref10_Fix.f k l0).bind fun t363 => ((cenotaphlaw10_To.f k t363).bind fun t366 => ((cenotaphref10_Fix.f k l1).bind fun t369 => ((cenotaphlaw10_To.f k t369).bind fun t372 => ((cenotaphref10_Fix.f k l2).bind fun t375 => ((cenotaphlaw10_To.f k t375).bind fun t378 => ((matrix_Merge.f k t366 t372).bind fun t381 => (cenotaphlaw10_MatrixOnce.l0 k t366 t372 t378 t381 0)))))))) = some r := h
 clear h
 replace H := Option.bind_eq_some_iff.mp H
 obtain ⟨t363, A40, H⟩ := H
 replace H : ((cenotaphlaw10_To.f k t363).bind fun t366 => ((cenotaphref10_Fix.f k l1).bind fun t369 => ((cenotaphlaw10_To.f k t369).bind fun t372 => ((cenotaphref10_Fix.f k l2).bind fun t375 => ((cenotaphlaw10_To.f k t375).bind fun t378 => ((matrix_Merge.f k t366 t372).bind fun t381 => (cenotaphlaw10_MatrixOnce.l0 k t366 t372 t378 t381 0))))))) = some r := H
 have A4 := Aside0.mk A40
 clear A40
 replace H := Option.bind_eq_some_iff.mp H
 obtain ⟨t366, A50, H⟩ := H
 replace H : ((cenotaphref10_Fix.f k l1).bind fun t369 => ((cenotaphlaw10_To.f k t369).bind fun t372 => ((cenotaphref10_Fix.f k l2).bind fun t375 => ((cenotaphlaw10_To.f k t375).bind fun t378 => ((matrix_Merge.f k t366 t372).bind fun t381 => (cenotaphlaw10_MatrixOnce.l0 k t366 t372 t378 t381 0)))))) = some r := H
 have A5 := Aside0.mk A50
 clear A50
 replace H := Option.bind_eq_some_iff.mp H
 obtain ⟨t369, A60, H⟩ := H
 replace H : ((cenotaphlaw10_To.f k t369).bind fun t372 => ((cenotaphref10_Fix.f k l2).bind fun t375 => ((cenotaphlaw10_To.f k t375).bind fun t378 => ((matrix_Merge.f k t366 t372).bind fun t381 => (cenotaphlaw10_MatrixOnce.l0 k t366 t372 t378 t381 0))))) = some r := H
 have A6 := Aside0.mk A60
 clear A60
 replace H := Option.bind_eq_some_iff.mp H
 obtain ⟨t372, A70, H⟩ := H
 replace H : ((cenotaphref10_Fix.f k l2).bind fun t375 => ((cenotaphlaw10_To.f k t375).bind fun t378 => ((matrix_Merge.f k t366 t372).bind fun t381 => (cenotaphlaw10_MatrixOnce.l0 k t366 t372 t378 t381 0)))) = some r := H
 have A7 := Aside0.mk A70
 clear A70
 replace H := Option.bind_eq_some_iff.mp H
 obtain ⟨t375, A80, H⟩ := H
 replace H : ((cenotaphlaw10_To.f k t375).bind fun t378 => ((matrix_Merge.f k t366 t372).bind fun t381 => (cenotaphlaw10_MatrixOnce.l0 k t366 t372 t378 t381 0))) = some r := H
 have A8 := Aside0.mk A80
 clear A80
 replace H := Option.bind_eq_some_iff.mp H
 obtain ⟨t378, A90, H⟩ := H
 replace H : ((matrix_Merge.f k t366 t372).bind fun t381 => (cenotaphlaw10_MatrixOnce.l0 k t366 t372 t378 t381 0)) = some r := H
 have A9 := Aside0.mk A90
 clear A90
 replace H := Option.bind_eq_some_iff.mp H
 obtain ⟨t381, A100, H⟩ := H
 replace H : (cenotaphlaw10_MatrixOnce.l0 k t366 t372 t378 t381 0) = some r := H
 have A10 := Aside0.mk A100
 clear A100
 have H' := Aside0.mk H
 clear H
 go_enter Try.func5, Try.ntmps5
 go_wp2_with (first | ((with_reducible refine gate_callee (f := 12) rfl ?_); refine goesL_ (some 13) rfl rfl Try.func12 (by kernel_rfl) rfl #[.slice A0 l0.length c0] rfl zq5_3 ?_; (with_reducible refine (cenotaphref10_Fix.calls k _ _ l0 t363 _ ?side1 ?side2 A4.out).mono ?_); (case side1 => repeat (first | exact HR0.out | (with_reducible refine Kd.C_alloc ?_ _) | (with_reducible refine Kd.C_drewN ?_ _) | (with_reducible refine Kd.C_drew ?_))); (case side2 => exact HC0.out); rintro e w11 ⟨v364, rfl, ho0, hb⟩; refine ⟨_, rfl, ?_⟩; have n0_ := Aside0.mk (Kd.V_lower (Kd.V_mono (ok' := fun k_ => True) ho0 (fun k_ hk_ => trivial)) (below_size zq5_4)); have n1_ := Aside0.mk (below_step zq5_4 hb); clear HB; have HO365 := n0_; have HB := n1_; clear n0_ n1_; (try clear hb); (try clear hb2); (try clear hk); (try clear hi); (try clear ho0); obtain ⟨Ao12, co12, eo12⟩ := Kd.V_slice HO365.out; subst eo12) | ((with_reducible refine gate_callee (f := 10) rfl ?_); refine goesL_ (some 14) rfl rfl Try.func10 (by kernel_rfl) rfl #[.slice Ao12 t363.length co12] rfl zq5_3 ?_; (with_reducible refine (cenotaphlaw10_To.calls k _ _ t363 t366 _ ?side1 ?side2 A5.out).mono ?_); (case side1 => repeat (first | exact (Kd.V_reads' HO365.out).2.2 | (with_reducible refine Kd.C_alloc ?_ _) | (with_reducible refine Kd.C_drewN ?_ _) | (with_reducible refine Kd.C_drew ?_))); (case side2 => exact (Kd.V_reads' HO365.out).2.1); rintro e w13 ⟨v367, rfl, ho0, hb⟩; refine ⟨_, rfl, ?_⟩; have n0_ := Aside0.mk (Kd.V_elder' zq5_8 (Kd.S_base ho0) hb); have n1_ := Aside0.mk (Kd.S_lower ho0 (below_size zq5_4)); have n2_ := Aside0.mk (below_step zq5_4 hb); clear HO365; clear HB; have HO365 := n0_; have HO368 := n1_; have HB := n2_; clear n0_ n1_ n2_; (try clear hb); (try clear hb2); (try clear hk); (try clear hi); (try clear ho0)) | ((with_reducible refine gate_callee (f := 12) rfl ?_); refine goesL_ (some 16) rfl rfl Try.func12 (by kernel_rfl) rfl #[.slice A1 l1.length c1] rfl zq5_3 ?_; (with_reducible refine (cenotaphref10_Fix.calls k _ _ l1 t369 _ ?side1 ?side2 A6.out).mono ?_); (case side1 => repeat (first | exact (Kd.C_below HR1.out HB.out) | (with_reducible refine Kd.C_alloc ?_ _) | (with_reducible refine Kd.C_drewN ?_ _) | (with_reducible refine Kd.C_drew ?_))); (case side2 => exact HC1.out); rintro e w14 ⟨v370, rfl, ho0, hb⟩; refine ⟨_, rfl, ?_⟩; have n0_ := Aside0.mk (Kd.V_below zq5_8 hb); have n1_ := Aside0.mk (Kd.S_below zq5_9 hb); have n2_ := Aside0.mk (Kd.V_lower (Kd.V_mono (ok' := fun k_ => some k_ ≠ (v367 : Value).ownBlock) ho0 (fun k_ hk_ => (Kd.fresh' (Kd.S_lt zq5_9) k_ hk_))) (below_size zq5_4)); have n3_ := Aside0.mk (below_step zq5_4 hb); clear HO365; clear HO368; clear HB; have HO365 := n0_; have HO368 := n1_; have HO371 := n2_; have HB := n3_; clear n0_ n1_ n2_ n3_; (try clear hb); (try clear hb2); (try clear hk); (try clear hi); (try clear ho0); obtain ⟨Ao15, co15, eo15⟩ := Kd.V_slice HO371.out; subst eo15) | ((with_reducible refine gate_callee (f := 10) rfl ?_); refine goesL_ (some 17) rfl rfl Try.func10 (by kernel_rfl) rfl #[.slice Ao15 t369.length co15] rfl zq5_3 ?_; (with_reducible refine (cenotaphlaw10_To.calls k _ _ t369 t372 _ ?side1 ?side2 A7.out).mono ?_); (case side1 => repeat (first | exact (Kd.V_reads' HO371.out).2.2 | (with_reducible refine Kd.C_alloc ?_ _) | (with_reducible refine Kd.C_drewN ?_ _) | (with_reducible refine Kd.C_drew ?_))); (case side2 => exact (Kd.V_reads' HO371.out).2.1); rintro e w16 ⟨v373, rfl, ho0, hb⟩; refine ⟨_, rfl, ?_⟩; have n0_ := Aside0.mk (Kd.V_elder' zq5_8 (Kd.S_base ho0) hb); have n1_ := Aside0.mk (Kd.S_elder' zq5_9 (Kd.S_base ho0) hb); have n2_ := Aside0.mk (Kd.V_elder' zq5_10 (Kd.S_base ho0) hb); have n3_ := Aside0.mk (Kd.S_lower (Kd.S_new' ho0 (Kd.S_lt zq5_9)) (below_size zq5_4)); have n4_ := Aside0.mk (below_step zq5_4 hb); clear HO365; clear HO368; clear HO371; clear HB; have HO365 := n0_; have HO368 := n1_; have HO371 := n2_; have HO374 := n3_; have HB := n4_; clear n0_ n1_ n2_ n3_ n4_; (try clear hb); (try clear hb2); (try clear hk); (try clear hi); (try clear ho0)) | ((with_reducible refine gate_callee (f := 12) rfl ?_); refine goesL_ (some 19) rfl rfl Try.func12 (by kernel_rfl) rfl #[.slice A2 l2.length c2] rfl zq5_3 ?_; (with_reducible refine (cenotaphref10_Fix.calls k _ _ l2 t375 _ ?side1 ?side2 A8.out).mono ?_); (case side1 => repeat (first | exact (Kd.C_below HR2.out HB.out) | (with_reducible refine Kd.C_alloc ?_ _) | (with_reducible refine Kd.C_drewN ?_ _) | (with_reducible refine Kd.C_drew ?_))); (case side2 => exact HC2.out); rintro e w17 ⟨v376, rfl, ho0, hb⟩; refine ⟨_, rfl, ?_⟩; have n0_ := Aside0.mk (Kd.V_below zq5_8 hb); have n1_ := Aside0.mk (Kd.S_below zq5_9 hb); have n2_ := Aside0.mk (Kd.V_below zq5_10 hb); have n3_ := Aside0.mk (Kd.S_below zq5_11 hb); have n4_ := Aside0.mk (Kd.V_lower (Kd.V_mono (ok' := fun k_ => some k_ ≠ (v367 : Value).ownBlock ∧ some k_ ≠ (v373 : Value).ownBlock) ho0 (fun k_ hk_ => ⟨(Kd.fresh' (Kd.S_lt zq5_9) k_ hk_), (Kd.fresh' (Kd.S_lt zq5_11) k_ hk_)⟩)) (below_size zq5_4)); have n5_ := Aside0.mk (below_step zq5_4 hb); clear HO365; clear HO368; clear HO371; clear HO374; clear HB; have HO365 := n0_; have HO368 := n1_; have HO371 := n2_; have HO374 := n3_; have HO377 := n4_; have HB := n5_; clear n0_ n1_ n2_ n3_ n4_ n5_; (try clear hb); (try clear hb2); (try clear hk); (try clear hi); (try clear ho0); obtain ⟨Ao18, co18, eo18⟩ := Kd.V_slice HO377.out; subst eo18) | ((with_reducible refine gate_callee (f := 10) rfl ?_); refine goesL_ (some 20) rfl rfl Try.func10 (by kernel_rfl) rfl #[.slice Ao18 t375.length co18] rfl zq5_3 ?_; (with_reducible refine (cenotaphlaw10_To.calls k _ _ t375 t378 _ ?side1 ?side2 A9.out).mono ?_); (case side1 => repeat (first | exact (Kd.V_reads' HO377.out).2.2 | (with_reducible refine Kd.C_alloc ?_ _) | (with_reducible refine Kd.C_drewN ?_ _) | (with_reducible refine Kd.C_drew ?_))); (case side2 => exact (Kd.V_reads' HO377.out).2.1); rintro e w19 ⟨v379, rfl, ho0, hb⟩; refine ⟨_, rfl, ?_⟩; have n0_ := Aside0.mk (Kd.V_elder' zq5_8 (Kd.S_base ho0) hb); have n1_ := Aside0.mk (Kd.S_elder' zq5_9 (Kd.S_base ho0) hb); have n2_ := Aside0.mk (Kd.V_elder' zq5_10 (Kd.S_base ho0) hb); have n3_ := Aside0.mk (Kd.S_elder' zq5_11 (Kd.S_base ho0) hb); have n4_ := Aside0.mk (Kd.V_elder' (by (with_reducible repeat (first | apply Kd.V_alloc | apply Kd.V_drewN | apply Kd.V_drew)); exact HO377.out) (Kd.S_base ho0) hb); have n5_ := Aside0.mk (Kd.S_lower (Kd.S_new' (Kd.S_new' ho0 (Kd.S_lt zq5_9)) (Kd.S_lt zq5_11)) (below_size zq5_4)); have n6_ := Aside0.mk (below_step zq5_4 hb); clear HO365; clear HO368; clear HO371; clear HO374; clear HO377; clear HB; have HO365 := n0_; have HO368 := n1_; have HO371 := n2_; have HO374 := n3_; have HO377 := n4_; have HO380 := n5_; have HB := n6_; clear n0_ n1_ n2_ n3_ n4_ n5_ n6_; (try clear hb); (try clear hb2); (try clear hk); (try clear hi); (try clear ho0); obtain ⟨Ao20, co20, eo20⟩ := Kd.S_slice HO368.out; subst eo20; obtain ⟨Ao21, co21, eo21⟩ := Kd.S_slice HO374.out; subst eo21) | ((with_reducible refine gate_callee (f := 22) rfl ?_); refine goesL_ (some 23) rfl rfl Try.func22 (by kernel_rfl) rfl #[.slice Ao20 t366.length co20, .slice Ao21 t372.length co21] rfl zq5_3 ?_; (with_reducible refine (matrix_Merge.calls k _ _ t366 _ _ t372 t381 _ ?side1 ?side2 ?side3 ?side4 A10.out).mono ?_); (case side1 => repeat (first | exact (Kd.S_reads' HO368.out).2.2 | (with_reducible refine Kd.C_alloc ?_ _) | (with_reducible refine Kd.C_drewN ?_ _) | (with_reducible refine Kd.C_drew ?_))); (case side2 => exact (Kd.S_reads' HO368.out).2.1); (case side3 => repeat (first | exact (Kd.S_reads' HO374.out).2.2 | (with_reducible refine Kd.C_alloc ?_ _) | (with_reducible refine Kd.C_drewN ?_ _) | (with_reducible refine Kd.C_drew ?_))); (case side4 => exact (Kd.S_reads' HO374.out).2.1); rintro e w22 ⟨v382, rfl, ho0, hb⟩; refine ⟨_, rfl, ?_⟩; have n0_ := Aside0.mk (Kd.V_below zq5_8 hb); have n1_ := Aside0.mk (Kd.S_below zq5_9 hb); have n2_ := Aside0.mk (Kd.V_below zq5_10 hb); have n3_ := Aside0.mk (Kd.S_below zq5_11 hb); have n4_ := Aside0.mk (Kd.V_below (by (with_reducible repeat (first | apply Kd.V_alloc | apply Kd.V_drewN | apply Kd.V_drew)); exact HO377.out) hb); have n5_ := Aside0.mk (Kd.S_below (by (with_reducible repeat (first | apply Kd.S_alloc | apply Kd.S_drewN | apply Kd.S_drew)); exact HO380.out) hb); have n6_ := Aside0.mk (Kd.V_lower (Kd.V_mono (ok' := fun k_ => some k_ ≠ (.slice Ao20 t366.length co20 : Value).ownBlock ∧ some k_ ≠ (.slice Ao21 t372.length co21 : Value).ownBlock ∧ some k_ ≠ (v379 : Value).ownBlock) ho0 (fun k_ hk_ => ⟨(Kd.fresh' (Kd.S_lt zq5_9) k_ hk_), (Kd.fresh' (Kd.S_lt zq5_11) k_ hk_), (Kd.fresh' (Kd.S_lt (by (with_reducible repeat (first | apply Kd.S_alloc | apply Kd.S_drewN | apply Kd.S_drew)); exact HO380.out)) k_ hk_)⟩)) (below_size zq5_4)); have n7_ := Aside0.mk (below_step zq5_4 hb); clear HO365; clear HO368; clear HO371; clear HO374; clear HO377; clear HO380; clear HB; have HO365 := n0_; have HO368 := n1_; have HO371 := n2_; have HO374 := n3_; have HO377 := n4_; have HO380 := n5_; have HO383 := n6_; have HB := n7_; clear n0_ n1_ n2_ n3_ n4_ n5_ n6_ n7_; (try clear hb); (try clear hb2); (try clear hk); (try clear hi); (try clear ho0)))
 go_loopg [11] k (fun kq v11 w' => ∃ (x11_1 : Int), v11 = .int .i64 x11_1 ∧ Aside0 (cenotaphlaw10_MatrixOnce.l0 kq t366 t372 t378 t381 x11_1 = some r) ∧ Aside0 (kq ≤ k) ∧ Aside0 (Kd.S k50 50 w' w.heap.size (fun k_ => some k_ ≠ ((.slice Ao21 t372.length co21) : Value).ownBlock ∧ some k_ ≠ (v379 : Value).ownBlock) (.slice Ao20 t366.length co20) t366) ∧ Aside0 (Kd.S k50 50 w' w.heap.size (fun k_ => some k_ ≠ ((.slice Ao20 t366.length co20) : Value).ownBlock ∧ some k_ ≠ (v379 : Value).ownBlock) (.slice Ao21 t372.length co21) t372) ∧ Aside0 (Kd.S k50 50 w' w.heap.size (fun k_ => some k_ ≠ ((.slice Ao20 t366.length co20) : Value).ownBlock ∧ some k_ ≠ ((.slice Ao21 t372.length co21) : Value).ownBlock) v379 t378) ∧ Aside0 (Kd.V k50 50 w' w.heap.size (fun k_ => some k_ ≠ ((.slice Ao20 t366.length co20) : Value).ownBlock ∧ some k_ ≠ ((.slice Ao21 t372.length co21) : Value).ownBlock ∧ some k_ ≠ (v379 : Value).ownBlock) v382 t381) ∧ Aside0 (Below w.heap.size w w'))
 case atStart => exact ⟨(0), (by first | rfl | (simp; done) | (simp [*]; done)), H', ⟨Nat.le_refl _⟩, ⟨by (with_reducible repeat (first | apply Kd.S_alloc | apply Kd.S_drewN | apply Kd.S_drew)); exact Kd.S_mono HO368.out (fun _ hk => ⟨hk.1.2, hk.2⟩)⟩, ⟨by (with_reducible repeat (first | apply Kd.S_alloc | apply Kd.S_drewN | apply Kd.S_drew)); exact Kd.S_mono HO374.out (fun _ hk => ⟨hk.1.2, hk.2⟩)⟩, ⟨by (with_reducible repeat (first | apply Kd.S_alloc | apply Kd.S_drewN | apply Kd.S_drew)); exact Kd.S_mono HO380.out (fun _ hk => ⟨hk.1.2, hk.2⟩)⟩, ⟨by (with_reducible repeat (first | apply Kd.V_alloc | apply Kd.V_drewN | apply Kd.V_drew)); exact HO383.out⟩, ⟨by repeat (first | (with_reducible first | exact HB.out | apply below_alloc | apply pw_below_drewN | apply below_drew1) | exact HB.out)⟩⟩
 case round =>
  clear H'
  try clear c1
  try clear c2
  try clear p2
  try clear c5
  try clear c10
  try clear c12
  try clear c22
  obtain ⟨x11_1, rfl, HA, HK1, HO_7, HO_8, HO_9, HO_10, HB⟩ := hrel
  cases gk with
  | zero => exact absurd HA.out (by simp [cenotaphlaw10_MatrixOnce.l0])
  | succ k1 =>
   have H := HA.out
   clear HA
   simp only [cenotaphlaw10_MatrixOnce.l0] at H
   by_cases c23 : x11_1 < (t381.length : Int)
   ·rw [if_pos c23] at H
    have c23b0 : decide (x11_1 < (t381.length : Int)) = true := decide_eq_true c23
    clear c23
    by_cases c24 : 0 ≤ x11_1
    ·rw [if_pos c24] at H
     have c24b0 : decide (0 ≤ x11_1) = true := decide_eq_true c24
     clear c24
     replace H := Option.bind_eq_some_iff.mp H
     obtain ⟨t386, A250, H⟩ := H
     replace H : ((matrix_Of.f t372 ((rd_T50 t381 x11_1).f0)).bind fun t390 => ((vec_Join.f k1 t386 t390).bind fun t393 => ((vec_Same.f k1 ((rd_T50 t381 x11_1).f1) t393).bind fun t396 => (if t396 = true then (cenotaphlaw10_MatrixOnce.l0 k1 t366 t372 t378 t381 (wrap64 (x11_1 + 1))) else (none))))) = some r := H
     have A25 := Aside0.mk A250
     clear A250
     replace H := Option.bind_eq_some_iff.mp H
     obtain ⟨t390, A260, H⟩ := H
     replace H : ((vec_Join.f k1 t386 t390).bind fun t393 => ((vec_Same.f k1 ((rd_T50 t381 x11_1).f1) t393).bind fun t396 => (if t396 = true then (cenotaphlaw10_MatrixOnce.l0 k1 t366 t372 t378 t381 (wrap64 (x11_1 + 1))) else (none)))) = some r := H
     have A26 := Aside0.mk A260
     clear A260
     replace H := Option.bind_eq_some_iff.mp H
     obtain ⟨t393, A270, H⟩ := H
     replace H : ((vec_Same.f k1 ((rd_T50 t381 x11_1).f1) t393).bind fun t396 => (if t396 = true then (cenotaphlaw10_MatrixOnce.l0 k1 t366 t372 t378 t381 (wrap64 (x11_1 + 1))) else (none))) = some r := H
     have A27 := Aside0.mk A270
     clear A270
     replace H := Option.bind_eq_some_iff.mp H
     obtain ⟨t396, A280, H⟩ := H
     replace H : (if t396 = true then (cenotaphlaw10_MatrixOnce.l0 k1 t366 t372 t378 t381 (wrap64 (x11_1 + 1))) else (none)) = some r := H
     have A28 := Aside0.mk A280
     clear A280
     by_cases c29 : t396 = true
     ·subst c29
      have H1 : (cenotaphlaw10_MatrixOnce.l0 k1 t366 t372 t378 t381 (wrap64 (x11_1 + 1))) = some r := by rw [if_pos rfl] at H; exact H
      clear H
      have H := H1
      clear H1
      have H' := Aside0.mk H
      clear H
      obtain ⟨Ao30, co30, eo30⟩ := Kd.V_slice HO_10.out
      subst eo30
      try go_wp2
      replace HO_7 := Aside0.mk (Kd.S_drew HO_7.out)
      replace HO_8 := Aside0.mk (Kd.S_drew HO_8.out)
      replace HO_9 := Aside0.mk (Kd.S_drew HO_9.out)
      replace HO_10 := Aside0.mk (Kd.V_drew HO_10.out)
      replace HB := Aside0.mk (below_drew1 HB.out)
      have p384 : 0 ≤ (x11_1 : Int) := of_decide_eq_true zq5_19
      have q384 : x11_1 < (t381.length : Int) := of_decide_eq_true zq5_19
      obtain ⟨ad384, A384_1, c384_1, e384, hx384_0, hx384_1, hl384_1, hi384_1⟩ := at_T50 (Kd.V_reads' HO_10.out).2.2 x11_1 p384 q384
      cases e384
      obtain ⟨ce384, hce384, hMe384, hcc384⟩ := Kd.V_get HO_10.out z50 x11_1 p384 (by first | exact q384 | exact of_decide_eq_true zq5_19 | (have e_ := (Kd.V_reads' HO_10.out).1; omega))
      obtain ⟨ua384_1, uc384_1, rfl, ul384_1, ge384_1⟩ := k50_openF hMe384
      have hv384_1 := hcc384 1 _ rfl
      rw [add_field _ _ 1 (by omega)] at hv384_1
      replace hv384_1 := Option.some.inj (hv384_1.symm.trans hx384_1)
      injection hv384_1 with hva_ hvn_ hvc_
      rw [hva_] at ge384_1
      rw [hvc_] at ul384_1
      have HL384_1 := Aside0.mk (show Kd.V k67 67 _ w.heap.size _ _ ((rd_T50 t381 x11_1).f1) from Kd.V_mk ul384_1 ge384_1)
      clear hva_ hvn_ hvc_ ge384_1 ul384_1
      clear hcc384 hce384
      have HR384_1 := Aside0.mk hi384_1
      have HC384_1 := Aside0.mk hl384_1
      clear hi384_1 hl384_1
      replace p384 := eq_true p384
      replace q384 := eq_true q384
      have p385 : 0 ≤ (x11_1 : Int) := of_decide_eq_true zq5_19
      have q385 : x11_1 < (t381.length : Int) := of_decide_eq_true zq5_19
      obtain ⟨ad385, A385_1, c385_1, e385, hx385_0, hx385_1, hl385_1, hi385_1⟩ := at_T50 (Kd.V_reads' HO_10.out).2.2 x11_1 p385 q385
      obtain rfl : ad384 = ad385 := (by injection e385)
      obtain ⟨ce385, hce385, hMe385, hcc385⟩ := Kd.V_get HO_10.out z50 x11_1 p385 (by first | exact q385 | exact of_decide_eq_true zq5_19 | (have e_ := (Kd.V_reads' HO_10.out).1; omega))
      obtain ⟨ua385_1, uc385_1, rfl, ul385_1, ge385_1⟩ := k50_openF hMe385
      have hv385_1 := hcc385 1 _ rfl
      rw [add_field _ _ 1 (by omega)] at hv385_1
      replace hv385_1 := Option.some.inj (hv385_1.symm.trans hx385_1)
      injection hv385_1 with hva_ hvn_ hvc_
      rw [hva_] at ge385_1
      rw [hvc_] at ul385_1
      have HL385_1 := Aside0.mk (show Kd.V k67 67 _ w.heap.size _ _ ((rd_T50 t381 x11_1).f1) from Kd.V_mk ul385_1 ge385_1)
      clear hva_ hvn_ hvc_ ge385_1 ul385_1
      clear hcc385 hce385
      have HR385_1 := Aside0.mk hi385_1
      have HC385_1 := Aside0.mk hl385_1
      clear hi385_1 hl385_1
      replace p385 := eq_true p385
      replace q385 := eq_true q385
      have ea_ := Option.some.inj (hx384_1.symm.trans hx385_1)
      injection ea_ with ea_ en_ ec_
      subst ea_
      subst ec_
      clear en_
      have p389 : 0 ≤ (x11_1 : Int) := of_decide_eq_true zq5_19
      have q389 : x11_1 < (t381.length : Int) := of_decide_eq_true zq5_19
      obtain ⟨ad389, A389_1, c389_1, e389, hx389_0, hx389_1, hl389_1, hi389_1⟩ := at_T50 (Kd.V_reads' HO_10.out).2.2 x11_1 p389 q389
      obtain rfl : ad384 = ad389 := (by injection e389)
      obtain ⟨ce389, hce389, hMe389, hcc389⟩ := Kd.V_get HO_10.out z50 x11_1 p389 (by first | exact q389 | exact of_decide_eq_true zq5_19 | (have e_ := (Kd.V_reads' HO_10.out).1; omega))
      obtain ⟨ua389_1, uc389_1, rfl, ul389_1, ge389_1⟩ := k50_openF hMe389
      have hv389_1 := hcc389 1 _ rfl
      rw [add_field _ _ 1 (by omega)] at hv389_1
      replace hv389_1 := Option.some.inj (hv389_1.symm.trans hx389_1)
      injection hv389_1 with hva_ hvn_ hvc_
      rw [hva_] at ge389_1
      rw [hvc_] at ul389_1
      have HL389_1 := Aside0.mk (show Kd.V k67 67 _ w.heap.size _ _ ((rd_T50 t381 x11_1).f1) from Kd.V_mk ul389_1 ge389_1)
      clear hva_ hvn_ hvc_ ge389_1 ul389_1
      clear hcc389 hce389
      have HR389_1 := Aside0.mk hi389_1
      have HC389_1 := Aside0.mk hl389_1
      clear hi389_1 hl389_1
      replace p389 := eq_true p389
      replace q389 := eq_true q389
      have ea_ := Option.some.inj (hx384_1.symm.trans hx389_1)
      injection ea_ with ea_ en_ ec_
      subst ea_
      subst ec_
      clear en_
      refine start_ (n := 22) (S := fun w' => w'.cell? (ad384.add ((x11_1).toNat * 2)) = some (.string ((rd_T50 t381 x11_1).f0)) ∧ w'.cell? ⟨(ad384.add ((x11_1).toNat * 2)).block, (ad384.add ((x11_1).toNat * 2)).off + 1, none⟩ = some (.slice A384_1 ((rd_T50 t381 x11_1).f1).length c384_1) ∧ w'.cell? (ad384.add ((x11_1).toNat * 2)) = some (.string ((rd_T50 t381 x11_1).f0)) ∧ w'.cell? ⟨(ad384.add ((x11_1).toNat * 2)).block, (ad384.add ((x11_1).toNat * 2)).off + 1, none⟩ = some (.slice A384_1 ((rd_T50 t381 x11_1).f1).length c384_1) ∧ w'.cell? (ad384.add ((x11_1).toNat * 2)) = some (.string ((rd_T50 t381 x11_1).f0)) ∧ w'.cell? ⟨(ad384.add ((x11_1).toNat * 2)).block, (ad384.add ((x11_1).toNat * 2)).off + 1, none⟩ = some (.slice A384_1 ((rd_T50 t381 x11_1).f1).length c384_1)) (ds := []) #[false, false, false, false, false, false, false, false, false, false, false, false, false, false, false, false, false, false, false, false, false, false] (by kernel_rfl) rfl rfl ⟨hx384_0, hx384_1, hx385_0, hx385_1, hx389_0, hx389_1⟩ (fun hHeld => ?_); refine with_tabW cenotaphlaw10_MatrixOnce.tab6 cenotaphlaw10_MatrixOnce.bits6 (fun HT_ HW_ => ?_)
      generalize wr.drew = w31 at HO_7 HO_8 HO_9 HO_10 HB HL384_1 HL385_1 HL389_1 HR384_1 HR385_1 HR389_1 hx384_0 hx384_1 hx385_0 hx385_1 hx389_0 hx389_1 hHeld ⊢
      refine p_ 0 30 (mk_ 22 0x1) ?_
      refine p_ 1 31 (mk_ 22 0x3) ?_
      refine p_ 2 32 (mk_ 22 0x7) ?_
      refine p_ 3 33 (mk_ 22 0xf) ?_
      refine p_ 5 35 (mk_ 22 0x2f) ?_
      refine p_ 6 36 (mk_ 22 0x6f) ?_
      refine p_ 7 37 (mk_ 22 0xef) ?_
      refine p_ 8 38 (mk_ 22 0x1ef) ?_
      refine p_ 9 39 (mk_ 22 0x3ef) ?_
      refine p_ 12 42 (mk_ 22 0x13ef) ?_
      refine p_ 13 43 (mk_ 22 0x33ef) ?_
      refine p_ 14 44 (mk_ 22 0x73ef) ?_
      refine p_ 15 45 (mk_ 22 0xf3ef) ?_
      refine p_ 16 46 (mk_ 22 0x1f3ef) ?_
      refine t_ 4 34 (mk_ 22 0x1f3ff) hHeld ?_
      refine t_ 10 40 (mk_ 22 0x1f7ff) hHeld ?_
      refine t_ 17 47 (mk_ 22 0x3f7ff) hHeld ?_
      refine one_ (i := 11) (N := some 41) #[true, true, true, true, true, true, true, true, true, true, true, true, true, true, true, true, true, true, false, false, false, false] rfl rfl (one_of HT_.out (by kernel_rfl)) (by decide) (fun K hK => ?_)
      refine goes_ Try.func21 (by kernel_rfl) rfl #[.slice Ao20 t366.length co20, .string ((rd_T50 t381 x11_1).f0)] (by rfl) rfl rfl zq5_3 ?_
      with_reducible refine (matrix_Of.calls _ _ t366 ((rd_T50 t381 x11_1).f0) t386 _ ?side1 ?side2 A25.out).mono ?_
      (case side1 => repeat (first | exact (Kd.S_reads' HO_7.out).2.2 | (with_reducible refine Kd.C_alloc ?_ _) | (with_reducible refine Kd.C_drewN ?_ _) | (with_reducible refine Kd.C_drew ?_)))
      (case side2 => exact (Kd.S_reads' HO_7.out).2.1)
      rintro e w32 ⟨v387, rfl, ho0, hb⟩
      have HS0_ := (hb.cell (World.block_lt_of_cell? _ _ (hHeld.1))).trans (hHeld.1)
      have HS1_ := (hb.cell (World.block_lt_of_cell? _ _ (hHeld.2.1))).trans (hHeld.2.1)
      have HS2_ := (hb.cell (World.block_lt_of_cell? _ _ (hHeld.2.2.1))).trans (hHeld.2.2.1)
      have HS3_ := (hb.cell (World.block_lt_of_cell? _ _ (hHeld.2.2.2.1))).trans (hHeld.2.2.2.1)
      have HS4_ := (hb.cell (World.block_lt_of_cell? _ _ (hHeld.2.2.2.2.1))).trans (hHeld.2.2.2.2.1)
      have HS5_ := (hb.cell (World.block_lt_of_cell? _ _ (hHeld.2.2.2.2.2))).trans (hHeld.2.2.2.2.2)
      refine ⟨_, rfl, ?_⟩
      replace HO_10 := Aside0.mk (Kd.V_below zq5_12 hb)
      replace HL384_1 := Aside0.mk (Kd.V_below zq5_5 hb)
      replace HL385_1 := Aside0.mk (Kd.V_below zq5_6 hb)
      replace HL389_1 := Aside0.mk (Kd.V_below zq5_7 hb)
      have HO388 := Aside0.mk (Kd.V_lower (Kd.V_mono (ok' := fun k_ => some k_ ≠ (.slice Ao20 t366.length co20 : Value).ownBlock ∧ some k_ ≠ (.slice Ao21 t372.length co21 : Value).ownBlock ∧ some k_ ≠ (v379 : Value).ownBlock) ho0 (fun k_ hk_ => ⟨(Kd.fresh' (Kd.S_lt zq5_16) k_ hk_), (Kd.fresh' (Kd.S_lt zq5_17) k_ hk_), (Kd.fresh' (Kd.S_lt zq5_18) k_ hk_)⟩)) (below_size zq5_4))
      replace HO_7 := Aside0.mk (Kd.S_below zq5_16 hb)
      replace HO_8 := Aside0.mk (Kd.S_below zq5_17 hb)
      replace HO_9 := Aside0.mk (Kd.S_below zq5_18 hb)
      replace HR384_1 := Aside0.mk (Kd.C_below zq5_0 hb)
      replace HR385_1 := Aside0.mk (Kd.C_below zq5_1 hb)
      replace HR389_1 := Aside0.mk (Kd.C_below zq5_2 hb)
      replace HB := Aside0.mk (below_step zq5_4 hb)
      (try clear hb)
      (try clear hb2)
      (try clear hk)
      (try clear hi)
      (try clear ho0)
      refine hK.out _ _ ⟨HS0_, HS1_, HS2_, HS3_, HS4_, HS5_⟩ (fun hHeld => ?_)
      clear hK K
      refine norm_ (a' := ?_) ?_ ?_
      rotate_left
      ·show Act.put _ (some 41) _ = _
       simp only [Act.put, List.setIfInBounds_toArray, List.set_cons_zero, List.set_cons_succ, i64_w, i32_w]
       rfl
      refine one_ (i := 18) (N := some 48) #[true, true, true, true, true, true, true, true, true, true, true, true, true, true, true, true, true, true, true, false, false, false] rfl rfl (one_of HT_.out (by kernel_rfl)) (by decide) (fun K hK => ?_)
      refine goes_ Try.func21 (by kernel_rfl) rfl #[.slice Ao21 t372.length co21, .string ((rd_T50 t381 x11_1).f0)] (by rfl) rfl rfl zq5_3 ?_
      with_reducible refine (matrix_Of.calls _ _ t372 ((rd_T50 t381 x11_1).f0) t390 _ ?side1 ?side2 A26.out).mono ?_
      (case side1 => repeat (first | exact (Kd.S_reads' HO_8.out).2.2 | (with_reducible refine Kd.C_alloc ?_ _) | (with_reducible refine Kd.C_drewN ?_ _) | (with_reducible refine Kd.C_drew ?_)))
      (case side2 => exact (Kd.S_reads' HO_8.out).2.1)
      rintro e w33 ⟨v391, rfl, ho0, hb⟩
      have HS0_ := (hb.cell (World.block_lt_of_cell? _ _ (hHeld.1))).trans (hHeld.1)
      have HS1_ := (hb.cell (World.block_lt_of_cell? _ _ (hHeld.2.1))).trans (hHeld.2.1)
      have HS2_ := (hb.cell (World.block_lt_of_cell? _ _ (hHeld.2.2.1))).trans (hHeld.2.2.1)
      have HS3_ := (hb.cell (World.block_lt_of_cell? _ _ (hHeld.2.2.2.1))).trans (hHeld.2.2.2.1)
      have HS4_ := (hb.cell (World.block_lt_of_cell? _ _ (hHeld.2.2.2.2.1))).trans (hHeld.2.2.2.2.1)
      have HS5_ := (hb.cell (World.block_lt_of_cell? _ _ (hHeld.2.2.2.2.2))).trans (hHeld.2.2.2.2.2)
      refine ⟨_, rfl, ?_⟩
      replace HO_10 := Aside0.mk (Kd.V_below zq5_12 hb)
      replace HL384_1 := Aside0.mk (Kd.V_below zq5_5 hb)
      replace HL385_1 := Aside0.mk (Kd.V_below zq5_6 hb)
      replace HL389_1 := Aside0.mk (Kd.V_below zq5_7 hb)
      replace HO388 := Aside0.mk (Kd.V_below (by (with_reducible repeat (first | apply Kd.V_alloc | apply Kd.V_drewN | apply Kd.V_drew)); exact HO388.out) hb)
      have HO392 := Aside0.mk (Kd.V_lower (Kd.V_mono (ok' := fun k_ => some k_ ≠ (.slice Ao20 t366.length co20 : Value).ownBlock ∧ some k_ ≠ (.slice Ao21 t372.length co21 : Value).ownBlock ∧ some k_ ≠ (v379 : Value).ownBlock) ho0 (fun k_ hk_ => ⟨(Kd.fresh' (Kd.S_lt zq5_16) k_ hk_), (Kd.fresh' (Kd.S_lt zq5_17) k_ hk_), (Kd.fresh' (Kd.S_lt zq5_18) k_ hk_)⟩)) (below_size zq5_4))
      replace HO_7 := Aside0.mk (Kd.S_below zq5_16 hb)
      replace HO_8 := Aside0.mk (Kd.S_below zq5_17 hb)
      replace HO_9 := Aside0.mk (Kd.S_below zq5_18 hb)
      replace HR384_1 := Aside0.mk (Kd.C_below zq5_0 hb)
      replace HR385_1 := Aside0.mk (Kd.C_below zq5_1 hb)
      replace HR389_1 := Aside0.mk (Kd.C_below zq5_2 hb)
      replace HB := Aside0.mk (below_step zq5_4 hb)
      (try clear hb)
      (try clear hb2)
      (try clear hk)
      (try clear hi)
      (try clear ho0)
      obtain ⟨Ao34, co34, eo34⟩ := Kd.V_slice HO388.out
      (first | subst eo34 | (injection eo34 with f1_ f2_ f3_; have f4_ := f1_.symm; have f5_ := f3_.symm; clear f1_ f2_ f3_; subst f4_; subst f5_))
      obtain ⟨Ao35, co35, eo35⟩ := Kd.V_slice HO392.out
      (first | subst eo35 | (injection eo35 with f1_ f2_ f3_; have f4_ := f1_.symm; have f5_ := f3_.symm; clear f1_ f2_ f3_; subst f4_; subst f5_))
      refine hK.out _ _ ⟨HS0_, HS1_, HS2_, HS3_, HS4_, HS5_⟩ (fun hHeld => ?_)
      clear hK K
      refine norm_ (a' := ?_) ?_ ?_
      rotate_left
      ·show Act.put _ (some 48) _ = _
       simp only [Act.put, List.setIfInBounds_toArray, List.set_cons_zero, List.set_cons_succ, i64_w, i32_w]
       rfl
      refine one_ (i := 19) (N := some 49) #[true, true, true, true, true, true, true, true, true, true, true, true, true, true, true, true, true, true, true, true, false, false] rfl rfl (one_of HT_.out (by kernel_rfl)) (by decide) (fun K hK => ?_)
      refine goes_ Try.func24 (by kernel_rfl) rfl #[.slice Ao34 t386.length co34, .slice Ao35 t390.length co35] (by rfl) rfl rfl zq5_3 ?_
      with_reducible refine (vec_Join.calls k1 _ _ t386 _ _ t390 t393 _ ?side1 ?side2 ?side3 ?side4 A27.out).mono ?_
      (case side1 => repeat (first | exact (Kd.V_reads' HO388.out).2.2 | (with_reducible refine Kd.C_alloc ?_ _) | (with_reducible refine Kd.C_drewN ?_ _) | (with_reducible refine Kd.C_drew ?_)))
      (case side2 => exact (Kd.V_reads' HO388.out).2.1)
      (case side3 => repeat (first | exact (Kd.V_reads' HO392.out).2.2 | (with_reducible refine Kd.C_alloc ?_ _) | (with_reducible refine Kd.C_drewN ?_ _) | (with_reducible refine Kd.C_drew ?_)))
      (case side4 => exact (Kd.V_reads' HO392.out).2.1)
      rintro e w36 ⟨v394, rfl, ho0, hb⟩
      have HS0_ := (hb.cell (World.block_lt_of_cell? _ _ (hHeld.1))).trans (hHeld.1)
      have HS1_ := (hb.cell (World.block_lt_of_cell? _ _ (hHeld.2.1))).trans (hHeld.2.1)
      have HS2_ := (hb.cell (World.block_lt_of_cell? _ _ (hHeld.2.2.1))).trans (hHeld.2.2.1)
      have HS3_ := (hb.cell (World.block_lt_of_cell? _ _ (hHeld.2.2.2.1))).trans (hHeld.2.2.2.1)
      have HS4_ := (hb.cell (World.block_lt_of_cell? _ _ (hHeld.2.2.2.2.1))).trans (hHeld.2.2.2.2.1)
      have HS5_ := (hb.cell (World.block_lt_of_cell? _ _ (hHeld.2.2.2.2.2))).trans (hHeld.2.2.2.2.2)
      refine ⟨_, rfl, ?_⟩
      replace HO_7 := Aside0.mk (Kd.S_elder' zq5_16 (Kd.R_base ho0) hb)
      replace HO_8 := Aside0.mk (Kd.S_elder' zq5_17 (Kd.R_base ho0) hb)
      replace HO_9 := Aside0.mk (Kd.S_elder' zq5_18 (Kd.R_base ho0) hb)
      replace HO_10 := Aside0.mk (Kd.V_elder' zq5_12 (Kd.R_base ho0) hb)
      replace HL384_1 := Aside0.mk (Kd.V_elder' zq5_5 (Kd.R_base ho0) hb)
      replace HL385_1 := Aside0.mk (Kd.V_elder' zq5_6 (Kd.R_base ho0) hb)
      replace HL389_1 := Aside0.mk (Kd.V_elder' zq5_7 (Kd.R_base ho0) hb)
      replace HO388 := Aside0.mk (Kd.V_elder' (by (with_reducible repeat (first | apply Kd.V_alloc | apply Kd.V_drewN | apply Kd.V_drew)); exact HO388.out) (Kd.R_base ho0) hb)
      replace HO392 := Aside0.mk (Kd.V_elder' (by (with_reducible repeat (first | apply Kd.V_alloc | apply Kd.V_drewN | apply Kd.V_drew)); exact HO392.out) (Kd.R_base ho0) hb)
      have HO395 := Aside0.mk (Kd.R_lower ho0 (below_size zq5_4))
      replace HR384_1 := Aside0.mk (Kd.C_below zq5_0 hb)
      replace HR385_1 := Aside0.mk (Kd.C_below zq5_1 hb)
      replace HR389_1 := Aside0.mk (Kd.C_below zq5_2 hb)
      replace HB := Aside0.mk (below_step zq5_4 hb)
      (try clear hb)
      (try clear hb2)
      (try clear hk)
      (try clear hi)
      (try clear ho0)
      obtain ⟨Ao37, co37, eo37⟩ := Kd.R_slice HO395.out
      (first | subst eo37 | (injection eo37 with f1_ f2_ f3_; have f4_ := f1_.symm; have f5_ := f3_.symm; clear f1_ f2_ f3_; subst f4_; subst f5_))
      refine hK.out _ _ ⟨HS0_, HS1_, HS2_, HS3_, HS4_, HS5_⟩ (fun hHeld => ?_)
      clear hK K
      refine norm_ (a' := ?_) ?_ ?_
      rotate_left
      ·show Act.put _ (some 49) _ = _
       simp only [Act.put, List.setIfInBounds_toArray, List.set_cons_zero, List.set_cons_succ, i64_w, i32_w]
       rfl
      refine one_ (i := 20) (N := some 50) #[true, true, true, true, true, true, true, true, true, true, true, true, true, true, true, true, true, true, true, true, true, false] rfl rfl (one_of HT_.out (by kernel_rfl)) (by decide) (fun K hK => ?_)
      refine goes_ Try.func23 (by kernel_rfl) rfl #[.slice A384_1 ((rd_T50 t381 x11_1).f1).length c384_1, .slice Ao37 t393.length co37] (by rfl) rfl rfl zq5_3 ?_
      with_reducible refine (vec_Same.calls k1 _ _ ((rd_T50 t381 x11_1).f1) _ _ t393 true _ ?side1 ?side2 ?side3 ?side4 A28.out).mono ?_
      (case side1 => repeat (first | exact zq5_0 | (with_reducible refine Kd.C_alloc ?_ _) | (with_reducible refine Kd.C_drewN ?_ _) | (with_reducible refine Kd.C_drew ?_)))
      (case side2 => exact HC384_1.out)
      (case side3 => repeat (first | exact (Kd.R_reads' HO395.out).2.2 | (with_reducible refine Kd.C_alloc ?_ _) | (with_reducible refine Kd.C_drewN ?_ _) | (with_reducible refine Kd.C_drew ?_)))
      (case side4 => exact (Kd.R_reads' HO395.out).2.1)
      rintro e w' ⟨rfl, ⟨nd, rfl⟩⟩
      refine ⟨_, rfl, ?_⟩
      refine hK.out _ _ ⟨hHeld.1, hHeld.2.1, hHeld.2.2.1, hHeld.2.2.2.1, hHeld.2.2.2.2.1, hHeld.2.2.2.2.2⟩ (fun hHeld => ?_)
      clear hK K
      refine norm_ (a' := ?_) ?_ ?_
      rotate_left
      ·show Act.put _ (some 50) _ = _
       simp only [Act.put, List.setIfInBounds_toArray, List.set_cons_zero, List.set_cons_succ, i64_w, i32_w]
       rfl
      refine p_ 21 51 (mk_ 22 0x3fffff) ?_
      refine done_ (done_of HT_.out (by kernel_rfl)) ?_
      try go_wp2
      go_roundg k1
      case measure => have := HK1.out; omega
      case rel => exact ⟨(wrap64 (x11_1 + 1)), (by first | rfl | (simp; done) | (simp [*]; done)), H', ⟨by have := HK1.out; omega⟩, ⟨by (with_reducible repeat (first | apply Kd.S_alloc | apply Kd.S_drewN | apply Kd.S_drew)); exact Kd.S_mono HO_7.out (fun _ hk => ⟨hk.1.1, hk.1.2⟩)⟩, ⟨by (with_reducible repeat (first | apply Kd.S_alloc | apply Kd.S_drewN | apply Kd.S_drew)); exact Kd.S_mono HO_8.out (fun _ hk => ⟨hk.1.1, hk.1.2⟩)⟩, ⟨by (with_reducible repeat (first | apply Kd.S_alloc | apply Kd.S_drewN | apply Kd.S_drew)); exact Kd.S_mono HO_9.out (fun _ hk => ⟨hk.1.1, hk.1.2⟩)⟩, ⟨by (with_reducible repeat (first | apply Kd.V_alloc | apply Kd.V_drewN | apply Kd.V_drew)); exact Kd.V_mono HO_10.out (fun _ hk => ⟨hk.1.1, ⟨hk.1.2.1, hk.1.2.2⟩⟩)⟩, ⟨by repeat (first | (with_reducible first | exact HB.out | apply below_alloc | apply pw_below_drewN | apply below_drew1) | exact HB.out)⟩⟩
     ·replace c29 := Bool.eq_false_iff.mpr c29
      subst c29
      have H1 : (none) = some r := by rw [if_neg (show ¬ (false = true) by decide)] at H; exact H
      clear H
      have H := H1
      clear H1
      exact absurd H (by simp)
    ·rw [if_neg c24] at H
     exact absurd H (by simp)
   ·rw [if_neg c23] at H
    have c23b0 : decide (x11_1 < (t381.length : Int)) = false := decide_eq_false c23
    clear c23
    replace H := Option.bind_eq_some_iff.mp H
    obtain ⟨t397, A380, H⟩ := H
    replace H : (if t397 = true then ((matrix_Merge.f k1 t381 t378).bind fun t398 => ((matrix_Merge.f k1 t372 t378).bind fun t401 => ((matrix_Merge.f k1 t366 t401).bind fun t404 => ((matrix_Same.f k1 t398 t404).bind fun t407 => (if t407 = true then ((matrix_Merge.f k1 t381 t372).bind fun t408 => ((matrix_Same.f k1 t408 t381).bind fun t411 => (if t411 = true then ((matrix_Right.f k1 t381).bind fun t412 => (some t412)) else (none)))) else (none)))))) else (none)) = some r := H
    have A38 := Aside0.mk A380
    clear A380
    by_cases c39 : t397 = true
    ·subst c39
     have H1 : ((matrix_Merge.f k1 t381 t378).bind fun t398 => ((matrix_Merge.f k1 t372 t378).bind fun t401 => ((matrix_Merge.f k1 t366 t401).bind fun t404 => ((matrix_Same.f k1 t398 t404).bind fun t407 => (if t407 = true then ((matrix_Merge.f k1 t381 t372).bind fun t408 => ((matrix_Same.f k1 t408 t381).bind fun t411 => (if t411 = true then ((matrix_Right.f k1 t381).bind fun t412 => (some t412)) else (none)))) else (none)))))) = some r := by rw [if_pos rfl] at H; exact H
     clear H
     have H := H1
     clear H1
     replace H := Option.bind_eq_some_iff.mp H
     obtain ⟨t398, A400, H⟩ := H
     replace H : ((matrix_Merge.f k1 t372 t378).bind fun t401 => ((matrix_Merge.f k1 t366 t401).bind fun t404 => ((matrix_Same.f k1 t398 t404).bind fun t407 => (if t407 = true then ((matrix_Merge.f k1 t381 t372).bind fun t408 => ((matrix_Same.f k1 t408 t381).bind fun t411 => (if t411 = true then ((matrix_Right.f k1 t381).bind fun t412 => (some t412)) else (none)))) else (none))))) = some r := H
     have A40 := Aside0.mk A400
     clear A400
     replace H := Option.bind_eq_some_iff.mp H
     obtain ⟨t401, A410, H⟩ := H
     replace H : ((matrix_Merge.f k1 t366 t401).bind fun t404 => ((matrix_Same.f k1 t398 t404).bind fun t407 => (if t407 = true then ((matrix_Merge.f k1 t381 t372).bind fun t408 => ((matrix_Same.f k1 t408 t381).bind fun t411 => (if t411 = true then ((matrix_Right.f k1 t381).bind fun t412 => (some t412)) else (none)))) else (none)))) = some r := H
     have A41 := Aside0.mk A410
     clear A410
     replace H := Option.bind_eq_some_iff.mp H
     obtain ⟨t404, A420, H⟩ := H
     replace H : ((matrix_Same.f k1 t398 t404).bind fun t407 => (if t407 = true then ((matrix_Merge.f k1 t381 t372).bind fun t408 => ((matrix_Same.f k1 t408 t381).bind fun t411 => (if t411 = true then ((matrix_Right.f k1 t381).bind fun t412 => (some t412)) else (none)))) else (none))) = some r := H
     have A42 := Aside0.mk A420
     clear A420
     replace H := Option.bind_eq_some_iff.mp H
     obtain ⟨t407, A430, H⟩ := H
     replace H : (if t407 = true then ((matrix_Merge.f k1 t381 t372).bind fun t408 => ((matrix_Same.f k1 t408 t381).bind fun t411 => (if t411 = true then ((matrix_Right.f k1 t381).bind fun t412 => (some t412)) else (none)))) else (none)) = some r := H
     have A43 := Aside0.mk A430
     clear A430
     by_cases c44 : t407 = true
     ·subst c44
      have H1 : ((matrix_Merge.f k1 t381 t372).bind fun t408 => ((matrix_Same.f k1 t408 t381).bind fun t411 => (if t411 = true then ((matrix_Right.f k1 t381).bind fun t412 => (some t412)) else (none)))) = some r := by rw [if_pos rfl] at H; exact H
      clear H
      have H := H1
      clear H1
      replace H := Option.bind_eq_some_iff.mp H
      obtain ⟨t408, A450, H⟩ := H
      replace H : ((matrix_Same.f k1 t408 t381).bind fun t411 => (if t411 = true then ((matrix_Right.f k1 t381).bind fun t412 => (some t412)) else (none))) = some r := H
      have A45 := Aside0.mk A450
      clear A450
      replace H := Option.bind_eq_some_iff.mp H
      obtain ⟨t411, A460, H⟩ := H
      replace H : (if t411 = true then ((matrix_Right.f k1 t381).bind fun t412 => (some t412)) else (none)) = some r := H
      have A46 := Aside0.mk A460
      clear A460
      by_cases c47 : t411 = true
      ·subst c47
       have H1 : ((matrix_Right.f k1 t381).bind fun t412 => (some t412)) = some r := by rw [if_pos rfl] at H; exact H
       clear H
       have H := H1
       clear H1
       replace H := Option.bind_eq_some_iff.mp H
       obtain ⟨t412, A480, H⟩ := H
       replace H : (some t412) = some r := H
       have A48 := Aside0.mk A480
       clear A480
       obtain rfl := Option.some.inj H
       obtain ⟨Ao49, co49, eo49⟩ := Kd.V_slice HO_10.out
       subst eo49
       go_wp2_with (first | ((with_reducible refine gate_callee (f := 8) rfl ?_); refine goesL_ (some 52) rfl rfl Try.func8 (by kernel_rfl) rfl #[] rfl zq5_3 ?_; (with_reducible refine (cenotaphlaw10_told.calls k1  true _ A38.out).mono ?_); rintro e w50 ⟨rfl, hb⟩; refine ⟨_, rfl, ?_⟩; have n0_ := Aside0.mk (Kd.S_below zq5_16 hb); have n1_ := Aside0.mk (Kd.S_below zq5_17 hb); have n2_ := Aside0.mk (Kd.S_below zq5_18 hb); have n3_ := Aside0.mk (Kd.V_below zq5_12 hb); have n4_ := Aside0.mk (below_step zq5_4 hb); clear HO_7; clear HO_8; clear HO_9; clear HO_10; clear HB; have HO_7 := n0_; have HO_8 := n1_; have HO_9 := n2_; have HO_10 := n3_; have HB := n4_; clear n0_ n1_ n2_ n3_ n4_; (try clear hb); (try clear hb2); (try clear hk); (try clear hi); obtain ⟨Ao51, co51, eo51⟩ := Kd.S_slice HO_9.out; subst eo51) | (go_at_call 22; (with_reducible refine (matrix_Merge.calls k1 _ _ t381 _ _ t378 t398 _ ?side1 ?side2 ?side3 ?side4 A40.out).mono ?_); (case side1 => repeat (first | exact (Kd.V_reads' HO_10.out).2.2 | (with_reducible refine Kd.C_alloc ?_ _) | (with_reducible refine Kd.C_drewN ?_ _) | (with_reducible refine Kd.C_drew ?_))); (case side2 => exact (Kd.V_reads' HO_10.out).2.1); (case side3 => repeat (first | exact (Kd.S_reads' HO_9.out).2.2 | (with_reducible refine Kd.C_alloc ?_ _) | (with_reducible refine Kd.C_drewN ?_ _) | (with_reducible refine Kd.C_drew ?_))); (case side4 => exact (Kd.S_reads' HO_9.out).2.1); rintro e w52 ⟨v399, rfl, ho0, hb⟩; have n0_ := Aside0.mk (Kd.S_below zq5_16 hb); have n1_ := Aside0.mk (Kd.S_below zq5_17 hb); have n2_ := Aside0.mk (Kd.S_below zq5_18 hb); have n3_ := Aside0.mk (Kd.V_below zq5_12 hb); have n4_ := Aside0.mk (Kd.V_lower (Kd.V_mono (ok' := fun k_ => some k_ ≠ (.slice Ao20 t366.length co20 : Value).ownBlock ∧ some k_ ≠ (.slice Ao21 t372.length co21 : Value).ownBlock ∧ some k_ ≠ (.slice Ao51 t378.length co51 : Value).ownBlock) ho0 (fun k_ hk_ => ⟨(Kd.fresh' (Kd.S_lt zq5_16) k_ hk_), (Kd.fresh' (Kd.S_lt zq5_17) k_ hk_), (Kd.fresh' (Kd.S_lt zq5_18) k_ hk_)⟩)) (below_size zq5_4)); have n5_ := Aside0.mk (below_step zq5_4 hb); clear HO_7; clear HO_8; clear HO_9; clear HO_10; clear HB; have HO_7 := n0_; have HO_8 := n1_; have HO_9 := n2_; have HO_10 := n3_; have HO400 := n4_; have HB := n5_; clear n0_ n1_ n2_ n3_ n4_ n5_; (try clear hb); (try clear hb2); (try clear hk); (try clear hi); (try clear ho0)) | (go_at_call 22; (with_reducible refine (matrix_Merge.calls k1 _ _ t372 _ _ t378 t401 _ ?side1 ?side2 ?side3 ?side4 A41.out).mono ?_); (case side1 => repeat (first | exact (Kd.S_reads' HO_8.out).2.2 | (with_reducible refine Kd.C_alloc ?_ _) | (with_reducible refine Kd.C_drewN ?_ _) | (with_reducible refine Kd.C_drew ?_))); (case side2 => exact (Kd.S_reads' HO_8.out).2.1); (case side3 => repeat (first | exact (Kd.S_reads' HO_9.out).2.2 | (with_reducible refine Kd.C_alloc ?_ _) | (with_reducible refine Kd.C_drewN ?_ _) | (with_reducible refine Kd.C_drew ?_))); (case side4 => exact (Kd.S_reads' HO_9.out).2.1); rintro e w53 ⟨v402, rfl, ho0, hb⟩; have n0_ := Aside0.mk (Kd.S_below zq5_16 hb); have n1_ := Aside0.mk (Kd.S_below zq5_17 hb); have n2_ := Aside0.mk (Kd.S_below zq5_18 hb); have n3_ := Aside0.mk (Kd.V_below zq5_12 hb); have n4_ := Aside0.mk (Kd.V_below zq5_13 hb); have n5_ := Aside0.mk (Kd.V_lower (Kd.V_mono (ok' := fun k_ => some k_ ≠ (.slice Ao20 t366.length co20 : Value).ownBlock ∧ some k_ ≠ (.slice Ao21 t372.length co21 : Value).ownBlock ∧ some k_ ≠ (.slice Ao51 t378.length co51 : Value).ownBlock) ho0 (fun k_ hk_ => ⟨(Kd.fresh' (Kd.S_lt zq5_16) k_ hk_), (Kd.fresh' (Kd.S_lt zq5_17) k_ hk_), (Kd.fresh' (Kd.S_lt zq5_18) k_ hk_)⟩)) (below_size zq5_4)); have n6_ := Aside0.mk (below_step zq5_4 hb); clear HO_7; clear HO_8; clear HO_9; clear HO_10; clear HO400; clear HB; have HO_7 := n0_; have HO_8 := n1_; have HO_9 := n2_; have HO_10 := n3_; have HO400 := n4_; have HO403 := n5_; have HB := n6_; clear n0_ n1_ n2_ n3_ n4_ n5_ n6_; (try clear hb); (try clear hb2); (try clear hk); (try clear hi); (try clear ho0); obtain ⟨Ao54, co54, eo54⟩ := Kd.V_slice HO403.out; subst eo54) | (go_at_call 22; (with_reducible refine (matrix_Merge.calls k1 _ _ t366 _ _ t401 t404 _ ?side1 ?side2 ?side3 ?side4 A42.out).mono ?_); (case side1 => repeat (first | exact (Kd.S_reads' HO_7.out).2.2 | (with_reducible refine Kd.C_alloc ?_ _) | (with_reducible refine Kd.C_drewN ?_ _) | (with_reducible refine Kd.C_drew ?_))); (case side2 => exact (Kd.S_reads' HO_7.out).2.1); (case side3 => repeat (first | exact (Kd.V_reads' HO403.out).2.2 | (with_reducible refine Kd.C_alloc ?_ _) | (with_reducible refine Kd.C_drewN ?_ _) | (with_reducible refine Kd.C_drew ?_))); (case side4 => exact (Kd.V_reads' HO403.out).2.1); rintro e w55 ⟨v405, rfl, ho0, hb⟩; have n0_ := Aside0.mk (Kd.S_below zq5_16 hb); have n1_ := Aside0.mk (Kd.S_below zq5_17 hb); have n2_ := Aside0.mk (Kd.S_below zq5_18 hb); have n3_ := Aside0.mk (Kd.V_below zq5_12 hb); have n4_ := Aside0.mk (Kd.V_below zq5_13 hb); have n5_ := Aside0.mk (Kd.V_below zq5_14 hb); have n6_ := Aside0.mk (Kd.V_lower (Kd.V_mono (ok' := fun k_ => some k_ ≠ (.slice Ao20 t366.length co20 : Value).ownBlock ∧ some k_ ≠ (.slice Ao21 t372.length co21 : Value).ownBlock ∧ some k_ ≠ (.slice Ao51 t378.length co51 : Value).ownBlock) ho0 (fun k_ hk_ => ⟨(Kd.fresh' (Kd.S_lt zq5_16) k_ hk_), (Kd.fresh' (Kd.S_lt zq5_17) k_ hk_), (Kd.fresh' (Kd.S_lt zq5_18) k_ hk_)⟩)) (below_size zq5_4)); have n7_ := Aside0.mk (below_step zq5_4 hb); clear HO_7; clear HO_8; clear HO_9; clear HO_10; clear HO400; clear HO403; clear HB; have HO_7 := n0_; have HO_8 := n1_; have HO_9 := n2_; have HO_10 := n3_; have HO400 := n4_; have HO403 := n5_; have HO406 := n6_; have HB := n7_; clear n0_ n1_ n2_ n3_ n4_ n5_ n6_ n7_; (try clear hb); (try clear hb2); (try clear hk); (try clear hi); (try clear ho0); obtain ⟨Ao56, co56, eo56⟩ := Kd.V_slice HO400.out; subst eo56; obtain ⟨Ao57, co57, eo57⟩ := Kd.V_slice HO406.out; subst eo57) | (go_at_call 25; (with_reducible refine (matrix_Same.calls k1 _ _ t398 _ _ t404 true _ ?side1 ?side2 ?side3 ?side4 A43.out).mono ?_); (case side1 => repeat (first | exact (Kd.V_reads' HO400.out).2.2 | (with_reducible refine Kd.C_alloc ?_ _) | (with_reducible refine Kd.C_drewN ?_ _) | (with_reducible refine Kd.C_drew ?_))); (case side2 => exact (Kd.V_reads' HO400.out).2.1); (case side3 => repeat (first | exact (Kd.V_reads' HO406.out).2.2 | (with_reducible refine Kd.C_alloc ?_ _) | (with_reducible refine Kd.C_drewN ?_ _) | (with_reducible refine Kd.C_drew ?_))); (case side4 => exact (Kd.V_reads' HO406.out).2.1); rintro e w58 ⟨rfl, hb⟩; have n0_ := Aside0.mk (Kd.S_below zq5_16 hb); have n1_ := Aside0.mk (Kd.S_below zq5_17 hb); have n2_ := Aside0.mk (Kd.S_below zq5_18 hb); have n3_ := Aside0.mk (Kd.V_below zq5_12 hb); have n4_ := Aside0.mk (Kd.V_below zq5_13 hb); have n5_ := Aside0.mk (Kd.V_below zq5_14 hb); have n6_ := Aside0.mk (Kd.V_below zq5_15 hb); have n7_ := Aside0.mk (below_step zq5_4 hb); clear HO_7; clear HO_8; clear HO_9; clear HO_10; clear HO400; clear HO403; clear HO406; clear HB; have HO_7 := n0_; have HO_8 := n1_; have HO_9 := n2_; have HO_10 := n3_; have HO400 := n4_; have HO403 := n5_; have HO406 := n6_; have HB := n7_; clear n0_ n1_ n2_ n3_ n4_ n5_ n6_ n7_; (try clear hb); (try clear hb2); (try clear hk); (try clear hi)) | (go_at_call 22; (with_reducible refine (matrix_Merge.calls k1 _ _ t381 _ _ t372 t408 _ ?side1 ?side2 ?side3 ?side4 A45.out).mono ?_); (case side1 => repeat (first | exact (Kd.V_reads' HO_10.out).2.2 | (with_reducible refine Kd.C_alloc ?_ _) | (with_reducible refine Kd.C_drewN ?_ _) | (with_reducible refine Kd.C_drew ?_))); (case side2 => exact (Kd.V_reads' HO_10.out).2.1); (case side3 => repeat (first | exact (Kd.S_reads' HO_8.out).2.2 | (with_reducible refine Kd.C_alloc ?_ _) | (with_reducible refine Kd.C_drewN ?_ _) | (with_reducible refine Kd.C_drew ?_))); (case side4 => exact (Kd.S_reads' HO_8.out).2.1); rintro e w59 ⟨v409, rfl, ho0, hb⟩; have n0_ := Aside0.mk (Kd.S_below zq5_16 hb); have n1_ := Aside0.mk (Kd.S_below zq5_17 hb); have n2_ := Aside0.mk (Kd.S_below zq5_18 hb); have n3_ := Aside0.mk (Kd.V_below zq5_12 hb); have n4_ := Aside0.mk (Kd.V_below zq5_13 hb); have n5_ := Aside0.mk (Kd.V_below zq5_14 hb); have n6_ := Aside0.mk (Kd.V_below zq5_15 hb); have n7_ := Aside0.mk (Kd.V_lower (Kd.V_mono (ok' := fun k_ => some k_ ≠ (.slice Ao20 t366.length co20 : Value).ownBlock ∧ some k_ ≠ (.slice Ao21 t372.length co21 : Value).ownBlock ∧ some k_ ≠ (.slice Ao51 t378.length co51 : Value).ownBlock) ho0 (fun k_ hk_ => ⟨(Kd.fresh' (Kd.S_lt zq5_16) k_ hk_), (Kd.fresh' (Kd.S_lt zq5_17) k_ hk_), (Kd.fresh' (Kd.S_lt zq5_18) k_ hk_)⟩)) (below_size zq5_4)); have n8_ := Aside0.mk (below_step zq5_4 hb); clear HO_7; clear HO_8; clear HO_9; clear HO_10; clear HO400; clear HO403; clear HO406; clear HB; have HO_7 := n0_; have HO_8 := n1_; have HO_9 := n2_; have HO_10 := n3_; have HO400 := n4_; have HO403 := n5_; have HO406 := n6_; have HO410 := n7_; have HB := n8_; clear n0_ n1_ n2_ n3_ n4_ n5_ n6_ n7_ n8_; (try clear hb); (try clear hb2); (try clear hk); (try clear hi); (try clear ho0); obtain ⟨Ao60, co60, eo60⟩ := Kd.V_slice HO410.out; subst eo60) | (go_at_call 25; (with_reducible refine (matrix_Same.calls k1 _ _ t408 _ _ t381 true _ ?side1 ?side2 ?side3 ?side4 A46.out).mono ?_); (case side1 => repeat (first | exact (Kd.V_reads' HO410.out).2.2 | (with_reducible refine Kd.C_alloc ?_ _) | (with_reducible refine Kd.C_drewN ?_ _) | (with_reducible refine Kd.C_drew ?_))); (case side2 => exact (Kd.V_reads' HO410.out).2.1); (case side3 => repeat (first | exact (Kd.V_reads' HO_10.out).2.2 | (with_reducible refine Kd.C_alloc ?_ _) | (with_reducible refine Kd.C_drewN ?_ _) | (with_reducible refine Kd.C_drew ?_))); (case side4 => exact (Kd.V_reads' HO_10.out).2.1); rintro e w61 ⟨rfl, hb⟩; have n0_ := Aside0.mk (Kd.S_below zq5_16 hb); have n1_ := Aside0.mk (Kd.S_below zq5_17 hb); have n2_ := Aside0.mk (Kd.S_below zq5_18 hb); have n3_ := Aside0.mk (Kd.V_below zq5_12 hb); have n4_ := Aside0.mk (Kd.V_below zq5_13 hb); have n5_ := Aside0.mk (Kd.V_below zq5_14 hb); have n6_ := Aside0.mk (Kd.V_below zq5_15 hb); have n7_ := Aside0.mk (Kd.V_below (by (with_reducible repeat (first | apply Kd.V_alloc | apply Kd.V_drewN | apply Kd.V_drew)); exact HO410.out) hb); have n8_ := Aside0.mk (below_step zq5_4 hb); clear HO_7; clear HO_8; clear HO_9; clear HO_10; clear HO400; clear HO403; clear HO406; clear HO410; clear HB; have HO_7 := n0_; have HO_8 := n1_; have HO_9 := n2_; have HO_10 := n3_; have HO400 := n4_; have HO403 := n5_; have HO406 := n6_; have HO410 := n7_; have HB := n8_; clear n0_ n1_ n2_ n3_ n4_ n5_ n6_ n7_ n8_; (try clear hb); (try clear hb2); (try clear hk); (try clear hi)) | (go_at_call 9; (with_reducible refine (matrix_Right.calls k1 _ _ t381 t412 _ ?side1 ?side2 A48.out).mono ?_); (case side1 => repeat (first | exact (Kd.V_reads' HO_10.out).2.2 | (with_reducible refine Kd.C_alloc ?_ _) | (with_reducible refine Kd.C_drewN ?_ _) | (with_reducible refine Kd.C_drew ?_))); (case side2 => exact (Kd.V_reads' HO_10.out).2.1); rintro e w62 ⟨rfl, hb⟩; have n0_ := Aside0.mk (Kd.S_below zq5_16 hb); have n1_ := Aside0.mk (Kd.S_below zq5_17 hb); have n2_ := Aside0.mk (Kd.S_below zq5_18 hb); have n3_ := Aside0.mk (Kd.V_below zq5_12 hb); have n4_ := Aside0.mk (Kd.V_below zq5_13 hb); have n5_ := Aside0.mk (Kd.V_below zq5_14 hb); have n6_ := Aside0.mk (Kd.V_below zq5_15 hb); have n7_ := Aside0.mk (Kd.V_below (by (with_reducible repeat (first | apply Kd.V_alloc | apply Kd.V_drewN | apply Kd.V_drew)); exact HO410.out) hb); have n8_ := Aside0.mk (below_step zq5_4 hb); clear HO_7; clear HO_8; clear HO_9; clear HO_10; clear HO400; clear HO403; clear HO406; clear HO410; clear HB; have HO_7 := n0_; have HO_8 := n1_; have HO_9 := n2_; have HO_10 := n3_; have HO400 := n4_; have HO403 := n5_; have HO406 := n6_; have HO410 := n7_; have HB := n8_; clear n0_ n1_ n2_ n3_ n4_ n5_ n6_ n7_ n8_; (try clear hb); (try clear hb2); (try clear hk); (try clear hi)))
       go_ret
       exact ⟨by first | rfl | (simp [errW_none, errW_some] <;> rfl) | (simp [*, errW_none, errW_some] <;> rfl), by repeat (first | (with_reducible first | exact HB.out | apply below_alloc | apply pw_below_drewN | apply below_drew1) | exact HB.out)⟩
      ·replace c47 := Bool.eq_false_iff.mpr c47
       subst c47
       have H1 : (none) = some r := by rw [if_neg (show ¬ (false = true) by decide)] at H; exact H
       clear H
       have H := H1
       clear H1
       exact absurd H (by simp)
     ·replace c44 := Bool.eq_false_iff.mpr c44
      subst c44
      have H1 : (none) = some r := by rw [if_neg (show ¬ (false = true) by decide)] at H; exact H
      clear H
      have H := H1
      clear H1
      exact absurd H (by simp)
    ·replace c39 := Bool.eq_false_iff.mpr c39
     subst c39
     have H1 : (none) = some r := by rw [if_neg (show ¬ (false = true) by decide)] at H; exact H
     clear H
     have H := H1
     clear H1
     exact absurd H (by simp)

end Go.Proofs.Ytoodahceejdbcaa.P
